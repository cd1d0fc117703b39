/- Ours. -/
import Derived.Test.YtbbipmelhmgmfaaGreatDbM4
import Derived.Test.YtbbipmelhmgmfaaGreatDbMems
set_option linter.all false
set_option maxRecDepth 100000
set_option maxHeartbeats 20000000
namespace Go.Proofs.YtbbipmelhmgmfaaGreat
open Go.RowKit
section
variable {n : Nat} {F : Nat → Prop} {j : Nat} {w0 : World}
theorem zsp:zp7 ar 130:=kz
theorem zr2:zp7 ar 140:=kz
theorem zqf:zp7 ar 177:=kz
theorem zqD:zp7 ar 181:=kz
theorem zt6:zp7 ar 215:=kz
theorem zur:zp7 ar 220:=kz
theorem zqz:zp7 ar 223:=kz
theorem zrd:zp7 ar 228:=kz
theorem zr4:zp7 ar 274:=kz
theorem ztq:zp7 ar 275:=kz
theorem zqx:zp7 ar 283:=kz
theorem zrw:zp7 ar 293:=kz
theorem zsJ:zp7 ar 297:=kz
theorem ztl:zp7 ar 301:=kz
theorem zrq:zp7 ar 348:=kz
theorem zs5:zp7 ar 352:=kz
theorem zrA:zp7 ar 358:=kz
theorem zrR:zp7 ar 360:=kz
theorem ztI:zp7 ar 379:=kz
theorem ztV:zp7 ar 385:=kz
theorem zte:zp7 ar 386:=kz
theorem znk:zph ar 116 0 0:=kz
theorem zoT:zph ar 116 1 1:=kz
theorem zoi:zph ar 116 2 4:=kz
theorem zoI:zph ar 116 3 8:=kz
theorem zgS:zph ar 119 0 0:=kz
theorem zl6:zph ar 119 1 1:=kz
theorem zkA:zph ar 119 2 2:=kz
theorem zkV:zph ar 119 3 6:=kz
theorem zf3:zph ar 133 0 0:=kz
theorem zjI:zph ar 133 2 1:=kz
theorem zjE:zph ar 133 3 5:=kz
theorem zmZ:zph ar 271 0 0:=kz
theorem zot:zph ar 271 1 1:=kz
theorem zok:zph ar 271 2 2:=kz
theorem zou:zph ar 271 3 6:=kz
theorem zn9:zph ar 318 0 0:=kz
theorem zoB:zph ar 318 1 1:=kz
theorem zoG:zph ar 318 2 2:=kz
theorem zol:zph ar 318 3 6:=kz
theorem znE:zph ar 41 0 0:=kz
theorem zp0:zph ar 41 1 1:=kz
theorem zp6:zph ar 41 2 3:=kz
theorem zoW:zph ar 41 3 7:=kz
theorem zqw:fieldZ ar 133 1 1:=kz
theorem zrE:tyA ar 113 3:=kz
theorem zpZ:tyA ar 116 9:=kz
theorem zpE:tyA ar 119 7:=kz
theorem zqh:tyA ar 128 0:=kz
theorem zpS:tyA ar 133 6:=kz
theorem zq2:tyA ar 271 7:=kz
theorem zqd:tyA ar 318 7:=kz
theorem ta36:tyA ar 36 2:=kz
theorem ta38:tyA ar 38 4:=kz
theorem ta41:tyA ar 41 8:=kz
theorem zsV:tyO ar 114:=kz
theorem zqE:tyO ar 117:=kz
theorem zqt:tyO ar 131:=kz
theorem zrI:tyO ar 207:=kz
theorem zsn:tyO ar 213:=kz
theorem zr8:tyO ar 233:=kz
theorem zr9:tyO ar 261:=kz
theorem zry:tyO ar 265:=kz
theorem zsG:tyO ar 269:=kz
theorem zr3:tyO ar 290:=kz
theorem zrW:tyO ar 296:=kz
theorem zsB:tyO ar 316:=kz
theorem zss:tyO ar 324:=kz
theorem to39:tyO ar 39:=kz
theorem to4:tyO ar 4:=kz
theorem zpY:sized ar 116 9:=kz
theorem zpD:sized ar 119 7:=kz
theorem zpT:sized ar 133 6:=kz
theorem zq3:sized ar 271 7:=kz
theorem zqb:sized ar 318 7:=kz
theorem ts41:sized ar 41 8:=kz
theorem zq0:zeroOf ar 116=some (.agg (kq zpk)):=kz
theorem zpI:zeroOf ar 119=some (.agg (kq zpd)):=kz
theorem zpW:zeroOf ar 133=some (.agg (kq zpc)):=kz
theorem zq6:zeroOf ar 271=some (.agg (kq zpp)):=kz
theorem zqm:zeroOf ar 318=some (.agg (kq zpy)):=kz
theorem tz41:zeroOf ar 41=some (.agg (kq zpe)):=kz
def D.ziS (a0:Access) (a1:(Int→T Unit)):T Unit:=(T.act a0.op a0.at_ a0.a a0.b a1)
theorem zhx (hF:kH F w0)
    (a0:Access) {a1f:FuncId} {aG aH:List Value} {a1:(Int→T Unit)} (a1n:FnT ar zpc u64 (n) F w0 (kf a1f aG aH) a1) :
    Calls ar 293 #[aq (zpm a0),kf a1f aG aH] w0 (zpg ar zpc n (D.ziS a0 a1) F w0):=by
 refine kN Tryz.func293 rfl 8 rfl rfl fun fr r hB=>?_;refine wsr ?_
 refine kX 38 (aq (zpm a0)) r rfl rfl fun b1 w2 n3 r=>?_;obtain ⟨E1,Z2,H1,hB,zB⟩:=n3.all hB
 refine za7 (.cells (kq zpc) 133 (0,0)) r (fun R=>za6 zpW) rfl fun fr b4 w5 n6 r=>?_;have H1:=keep n6.below H1
 obtain ⟨E4,Z5,H4,hB,zB⟩:=n6.all hB;refine wn (wsr (kG (zpm a0) 4 r rfl H1 ta38 rfl rfl fun r=>kM (kf a1f aG aH) r rfl rfl fun r=>kU (.agg (zp9 false zpc.zero a0.op a0.at_ a0.a a0.b (kf a1f aG aH))) r kz rfl fun r=>?_));refine zaJ (.cells (zp9 false zpc.zero a0.op a0.at_ a0.a a0.b (kf a1f aG aH)) 133 (0,0)) r (fun R=>zaB r (o:=0) (v:=(.agg (zp9 false zpc.zero a0.op a0.at_ a0.a a0.b (kf a1f aG aH)))) rfl rfl H4 zpT ak rfl rfl) rfl fun fr w7 u8 r=>?_
 have Z7:=u8.size;have H1:=u8.keep H1 kw
 have H4:=u8.at_;obtain ⟨hB,zB⟩:=u8.on hB kw
 refine wn (ac ?_);refine za5 r rfl rfl H4 (k:=6) rfl zpS ?_;exact ⟨_,rfl,hB,Rep.ziZ (a1n.mono (Nat.le_refl _) (fun b hb=>.inl hb) (Same.below hB hF) hB.size)⟩
def D.zem :T Unit:=(T.done ())
theorem zgc (hF:kH F w0)
     :
    Calls ar 292 #[.agg #[]] w0 (zpg ar zpc n D.zem F w0):=by
 refine kN Tryz.func292 rfl 5 rfl rfl fun fr r hB=>?_;refine wsr ?_
 refine kX 128 (.agg #[]) r rfl rfl fun b1 w2 n3 r=>?_;obtain ⟨E1,Z2,H1,hB,zB⟩:=n3.all hB
 refine za7 (.cells (kq zpc) 133 (0,0)) r (fun R=>za6 zpW) rfl fun fr b4 w5 n6 r=>?_;have H1:=keep n6.below H1
 obtain ⟨E4,Z5,H4,hB,zB⟩:=n6.all hB;refine wn (wsr (kG [] 0 r rfl H1 zqh rfl rfl fun r=>kU (.agg (zp9 true (zpc.cells ()) 0 0 0 0 .nilFunc)) r kz rfl fun r=>?_));refine zaJ (.cells (zp9 true (zpc.cells ()) 0 0 0 0 .nilFunc) 133 (0,0)) r (fun R=>zaB r (o:=0) (v:=(.agg (zp9 true (zpc.cells ()) 0 0 0 0 .nilFunc))) rfl rfl H4 zpT ak rfl rfl) rfl fun fr w7 u8 r=>?_
 have Z7:=u8.size;have H1:=u8.keep H1 kw
 have H4:=u8.at_;obtain ⟨hB,zB⟩:=u8.on hB kw
 refine wn (ac ?_);refine za5 r rfl rfl H4 (k:=6) rfl zpS ?_;exact ⟨_,rfl,hB,Rep.zgV⟩
def D.zfZ (a0:Res):T Res:=(T.done a0)
def D.zfW (a0:Access) (a1:(Int→T Res)):T Res:=(T.act a0.op a0.at_ a0.a a0.b a1)
def D.zfR (a0:Access) (a1:(Int→T Int)):T Int:=(T.act a0.op a0.at_ a0.a a0.b a1)
theorem ze6 (hF:kH F w0)
    (a0:Access) {a1f:FuncId} {aG aH:List Value} {a1:(Int→T Int)} (a1n:FnT ar zpd u64 (n) F w0 (kf a1f aG aH) a1) :
    Calls ar 283 #[aq (zpm a0),kf a1f aG aH] w0 (zpg ar zpd n (D.zfR a0 a1) F w0):=by
 refine kN Tryz.func283 rfl 8 rfl rfl fun fr r hB=>?_;refine wsr ?_
 refine kX 38 (aq (zpm a0)) r rfl rfl fun b1 w2 n3 r=>?_;obtain ⟨E1,Z2,H1,hB,zB⟩:=n3.all hB
 refine za7 (.cells (kq zpd) 119 (0,0)) r (fun R=>za6 zpI) rfl fun fr b4 w5 n6 r=>?_;have H1:=keep n6.below H1
 obtain ⟨E4,Z5,H4,hB,zB⟩:=n6.all hB;refine wn (wsr (kG (zpm a0) 4 r rfl H1 ta38 rfl rfl fun r=>kM (kf a1f aG aH) r rfl rfl fun r=>kU (.agg (zp9 false zpd.zero a0.op a0.at_ a0.a a0.b (kf a1f aG aH))) r kz rfl fun r=>?_));refine zaJ (.cells (zp9 false zpd.zero a0.op a0.at_ a0.a a0.b (kf a1f aG aH)) 119 (0,0)) r (fun R=>zaB r (o:=0) (v:=(.agg (zp9 false zpd.zero a0.op a0.at_ a0.a a0.b (kf a1f aG aH)))) rfl rfl H4 zpD ak rfl rfl) rfl fun fr w7 u8 r=>?_
 have Z7:=u8.size;have H1:=u8.keep H1 kw
 have H4:=u8.at_;obtain ⟨hB,zB⟩:=u8.on hB kw
 refine wn (ac ?_);refine za5 r rfl rfl H4 (k:=7) rfl zpE ?_;exact ⟨_,rfl,hB,Rep.ziZ (a1n.mono (Nat.le_refl _) (fun b hb=>.inl hb) (Same.below hB hF) hB.size)⟩
def D.zaR (a0:Int):T Int:=(T.done a0)
theorem zbe (hF:kH F w0)
    (a0:Int) :
    Calls ar 222 #[.int .i64 a0] w0 (zpg ar zpd n (D.zaR a0) F w0):=by
 refine kN Tryz.func222 rfl 5 rfl rfl fun fr r hB=>?_;refine wsr ?_
 refine za7 (.cells (kq zpd) 119 (0,0)) r (fun R=>za6 zpI) rfl fun fr b1 w2 n3 r=>?_;obtain ⟨E1,Z2,H1,hB,zB⟩:=n3.all hB
 refine wn (wsr (kM (I a0) r rfl rfl fun r=>kU (.agg (zp9 true (zpd.cells a0) 0 0 0 0 .nilFunc)) r kz rfl fun r=>?_));refine zaJ (.cells (zp9 true (zpd.cells a0) 0 0 0 0 .nilFunc) 119 (0,0)) r (fun R=>zaB r (o:=0) (v:=(.agg (zp9 true (zpd.cells a0) 0 0 0 0 .nilFunc))) rfl rfl H1 zpD ak rfl rfl) rfl fun fr w4 u5 r=>?_
 have Z4:=u5.size;have H1:=u5.at_;obtain ⟨hB,zB⟩:=u5.on hB kw
 refine wn (ac ?_);refine za5 r rfl rfl H1 (k:=7) rfl zpE ?_;exact ⟨_,rfl,hB,Rep.zgV⟩
def D.ze0 (a0:Grant):T Grant:=(T.done a0)
theorem zfx (hF:kH F w0)
    (a0:Grant) :
    Calls ar 179 #[aq (grantC a0)] w0 (zpg ar zpk n (D.ze0 a0) F w0):=by
 refine kN Tryz.func179 rfl 5 rfl rfl fun fr r hB=>?_;refine wsr ?_
 refine kX 113 (aq (grantC a0)) r rfl rfl fun b1 w2 n3 r=>?_;obtain ⟨E1,Z2,H1,hB,zB⟩:=n3.all hB
 refine za7 (.cells (kq zpk) 116 (0,0)) r (fun R=>za6 zq0) rfl fun fr b4 w5 n6 r=>?_;have H1:=keep n6.below H1
 obtain ⟨E4,Z5,H4,hB,zB⟩:=n6.all hB;refine wn (wsr (kG (grantC a0) 3 r rfl H1 zrE rfl rfl fun r=>kU (.agg (zp9 true (zpk.cells a0) 0 0 0 0 .nilFunc)) r kz rfl fun r=>?_));refine zaJ (.cells (zp9 true (zpk.cells a0) 0 0 0 0 .nilFunc) 116 (0,0)) r (fun R=>zaB r (o:=0) (v:=(.agg (zp9 true (zpk.cells a0) 0 0 0 0 .nilFunc))) rfl rfl H4 zpY ak rfl rfl) rfl fun fr w7 u8 r=>?_
 have Z7:=u8.size;have H1:=u8.keep H1 kw
 have H4:=u8.at_;obtain ⟨hB,zB⟩:=u8.on hB kw
 refine wn (ac ?_);refine za5 r rfl rfl H4 (k:=9) rfl zpZ ?_;exact ⟨_,rfl,hB,Rep.zgV⟩
def D.zg5 (a0:Access) (a1:(Int→T Grant)):T Grant:=(T.act a0.op a0.at_ a0.a a0.b a1)
theorem zf5 (hF:kH F w0)
    (a0:Access) {a1f:FuncId} {aG aH:List Value} {a1:(Int→T Grant)} (a1n:FnT ar zpk u64 (n) F w0 (kf a1f aG aH) a1) :
    Calls ar 274 #[aq (zpm a0),kf a1f aG aH] w0 (zpg ar zpk n (D.zg5 a0 a1) F w0):=by
 refine kN Tryz.func274 rfl 8 rfl rfl fun fr r hB=>?_;refine wsr ?_
 refine kX 38 (aq (zpm a0)) r rfl rfl fun b1 w2 n3 r=>?_;obtain ⟨E1,Z2,H1,hB,zB⟩:=n3.all hB
 refine za7 (.cells (kq zpk) 116 (0,0)) r (fun R=>za6 zq0) rfl fun fr b4 w5 n6 r=>?_;have H1:=keep n6.below H1
 obtain ⟨E4,Z5,H4,hB,zB⟩:=n6.all hB;refine wn (wsr (kG (zpm a0) 4 r rfl H1 ta38 rfl rfl fun r=>kM (kf a1f aG aH) r rfl rfl fun r=>kU (.agg (zp9 false zpk.zero a0.op a0.at_ a0.a a0.b (kf a1f aG aH))) r kz rfl fun r=>?_));refine zaJ (.cells (zp9 false zpk.zero a0.op a0.at_ a0.a a0.b (kf a1f aG aH)) 116 (0,0)) r (fun R=>zaB r (o:=0) (v:=(.agg (zp9 false zpk.zero a0.op a0.at_ a0.a a0.b (kf a1f aG aH)))) rfl rfl H4 zpY ak rfl rfl) rfl fun fr w7 u8 r=>?_
 have Z7:=u8.size;have H1:=u8.keep H1 kw
 have H4:=u8.at_;obtain ⟨hB,zB⟩:=u8.on hB kw
 refine wn (ac ?_);refine za5 r rfl rfl H4 (k:=9) rfl zpZ ?_;exact ⟨_,rfl,hB,Rep.ziZ (a1n.mono (Nat.le_refl _) (fun b hb=>.inl hb) (Same.below hB hF) hB.size)⟩
def D.zdj (a0:Bool):T Bool:=(T.done a0)
theorem zgj (hF:kH F w0)
    (a0:Bool) :
    Calls ar 395 #[.bool a0] w0 (zpg ar zpy n (D.zdj a0) F w0):=by
 refine kN Tryz.func395 rfl 5 rfl rfl fun fr r hB=>?_;refine wsr ?_
 refine za7 (.cells (kq zpy) 318 (0,0)) r (fun R=>za6 zqm) rfl fun fr b1 w2 n3 r=>?_;obtain ⟨E1,Z2,H1,hB,zB⟩:=n3.all hB
 refine wn (wsr (kM (.bool a0) r rfl rfl fun r=>kU (.agg (zp9 true (zpy.cells a0) 0 0 0 0 .nilFunc)) r kz rfl fun r=>?_));refine zaJ (.cells (zp9 true (zpy.cells a0) 0 0 0 0 .nilFunc) 318 (0,0)) r (fun R=>zaB r (o:=0) (v:=(.agg (zp9 true (zpy.cells a0) 0 0 0 0 .nilFunc))) rfl rfl H1 zqb ak rfl rfl) rfl fun fr w4 u5 r=>?_
 have Z4:=u5.size;have H1:=u5.at_;obtain ⟨hB,zB⟩:=u5.on hB kw
 refine wn (ac ?_);refine za5 r rfl rfl H1 (k:=7) rfl zqd ?_;exact ⟨_,rfl,hB,Rep.zgV⟩
def D.zj2 (a0:Access) (a1:(Int→T Bool)):T Bool:=(T.act a0.op a0.at_ a0.a a0.b a1)
theorem zkg (hF:kH F w0)
    (a0:Access) {a1f:FuncId} {aG aH:List Value} {a1:(Int→T Bool)} (a1n:FnT ar zpy u64 (n) F w0 (kf a1f aG aH) a1) :
    Calls ar 400 #[aq (zpm a0),kf a1f aG aH] w0 (zpg ar zpy n (D.zj2 a0 a1) F w0):=by
 refine kN Tryz.func400 rfl 8 rfl rfl fun fr r hB=>?_;refine wsr ?_
 refine kX 38 (aq (zpm a0)) r rfl rfl fun b1 w2 n3 r=>?_;obtain ⟨E1,Z2,H1,hB,zB⟩:=n3.all hB
 refine za7 (.cells (kq zpy) 318 (0,0)) r (fun R=>za6 zqm) rfl fun fr b4 w5 n6 r=>?_;have H1:=keep n6.below H1
 obtain ⟨E4,Z5,H4,hB,zB⟩:=n6.all hB;refine wn (wsr (kG (zpm a0) 4 r rfl H1 ta38 rfl rfl fun r=>kM (kf a1f aG aH) r rfl rfl fun r=>kU (.agg (zp9 false zpy.zero a0.op a0.at_ a0.a a0.b (kf a1f aG aH))) r kz rfl fun r=>?_));refine zaJ (.cells (zp9 false zpy.zero a0.op a0.at_ a0.a a0.b (kf a1f aG aH)) 318 (0,0)) r (fun R=>zaB r (o:=0) (v:=(.agg (zp9 false zpy.zero a0.op a0.at_ a0.a a0.b (kf a1f aG aH)))) rfl rfl H4 zqb ak rfl rfl) rfl fun fr w7 u8 r=>?_
 have Z7:=u8.size;have H1:=u8.keep H1 kw
 have H4:=u8.at_;obtain ⟨hB,zB⟩:=u8.on hB kw
 refine wn (ac ?_);refine za5 r rfl rfl H4 (k:=7) rfl zqd ?_;exact ⟨_,rfl,hB,Rep.ziZ (a1n.mono (Nat.le_refl _) (fun b hb=>.inl hb) (Same.below hB hF) hB.size)⟩
def D.zhv (a0:Access) (a1:(Int→T Int)):T Int:=(T.act a0.op a0.at_ a0.a a0.b a1)
theorem zgg (hF:kH F w0)
    (a0:Access) {a1f:FuncId} {aG aH:List Value} {a1:(Int→T Int)} (a1n:FnT ar zpp u64 (n) F w0 (kf a1f aG aH) a1) :
    Calls ar 358 #[aq (zpm a0),kf a1f aG aH] w0 (zpg ar zpp n (D.zhv a0 a1) F w0):=by
 refine kN Tryz.func358 rfl 8 rfl rfl fun fr r hB=>?_;refine wsr ?_
 refine kX 38 (aq (zpm a0)) r rfl rfl fun b1 w2 n3 r=>?_;obtain ⟨E1,Z2,H1,hB,zB⟩:=n3.all hB
 refine za7 (.cells (kq zpp) 271 (0,0)) r (fun R=>za6 zq6) rfl fun fr b4 w5 n6 r=>?_;have H1:=keep n6.below H1
 obtain ⟨E4,Z5,H4,hB,zB⟩:=n6.all hB;refine wn (wsr (kG (zpm a0) 4 r rfl H1 ta38 rfl rfl fun r=>kM (kf a1f aG aH) r rfl rfl fun r=>kU (.agg (zp9 false zpp.zero a0.op a0.at_ a0.a a0.b (kf a1f aG aH))) r kz rfl fun r=>?_));refine zaJ (.cells (zp9 false zpp.zero a0.op a0.at_ a0.a a0.b (kf a1f aG aH)) 271 (0,0)) r (fun R=>zaB r (o:=0) (v:=(.agg (zp9 false zpp.zero a0.op a0.at_ a0.a a0.b (kf a1f aG aH)))) rfl rfl H4 zq3 ak rfl rfl) rfl fun fr w7 u8 r=>?_
 have Z7:=u8.size;have H1:=u8.keep H1 kw
 have H4:=u8.at_;obtain ⟨hB,zB⟩:=u8.on hB kw
 refine wn (ac ?_);refine za5 r rfl rfl H4 (k:=7) rfl zq2 ?_;exact ⟨_,rfl,hB,Rep.ziZ (a1n.mono (Nat.le_refl _) (fun b hb=>.inl hb) (Same.below hB hF) hB.size)⟩
def D.zcv (a0:Int):T Int:=(T.done a0)
theorem zfm (hF:kH F w0)
    (a0:Int) :
    Calls ar 359 #[.int .u64 a0] w0 (zpg ar zpp n (D.zcv a0) F w0):=by
 refine kN Tryz.func359 rfl 5 rfl rfl fun fr r hB=>?_;refine wsr ?_
 refine za7 (.cells (kq zpp) 271 (0,0)) r (fun R=>za6 zq6) rfl fun fr b1 w2 n3 r=>?_;obtain ⟨E1,Z2,H1,hB,zB⟩:=n3.all hB
 refine wn (wsr (kM (U a0) r rfl rfl fun r=>kU (.agg (zp9 true (zpp.cells a0) 0 0 0 0 .nilFunc)) r kz rfl fun r=>?_));refine zaJ (.cells (zp9 true (zpp.cells a0) 0 0 0 0 .nilFunc) 271 (0,0)) r (fun R=>zaB r (o:=0) (v:=(.agg (zp9 true (zpp.cells a0) 0 0 0 0 .nilFunc))) rfl rfl H1 zq3 ak rfl rfl) rfl fun fr w4 u5 r=>?_
 have Z4:=u5.size;have H1:=u5.at_;obtain ⟨hB,zB⟩:=u5.on hB kw
 refine wn (ac ?_);refine za5 r rfl rfl H1 (k:=7) rfl zq2 ?_;exact ⟨_,rfl,hB,Rep.zgV⟩
def ze8 (n:Nat):Prop:=∀ {F:Nat→Prop} {w0:World},(∀ b,F b→b<w0.heap.size)→∀ {t:T (Bool)} {pv fv:Value} {g:Bool→T (Int)},Rep ar zpy n t F w0 pv→FnT ar zpd boolE n F w0 fv g→
  (t.zps=false∨FnT ar zpd boolE (n+1) F w0 fv g)→Calls ar 348 #[pv,fv] w0 (zpg ar zpd n (t.bind g) F w0)
theorem zhq {n:Nat} (ih:ze8 n) {F:Nat→Prop} {w0:World} (hF:∀ b,F b→b<w0.heap.size) {op at_ a b:Int} {nf:FuncId} {n1 n2:List Value} {k:Int→T (Bool)} {ff:FuncId} {f1 f2:List Value} {g:Bool→T (Int)}
    {b1 b2:Nat} (F1:F b1) (h1:w0.heap[b1]?=some (.cells (zp9 false zpy.zero op at_ a b (kf nf n1 n2)) 318 (0,0))) (F2:F b2) (h2:w0.heap[b2]?=some (.cells #[kf ff f1 f2] 290 (0,0)))
    (hk:FnT ar zpy u64 (n+1) F w0 (kf nf n1 n2) k) (hg:FnT ar zpd boolE (n+1) F w0 (kf ff f1 f2) g) (x:Int) :
    Calls ar 379 #[.int .u64 x,zp b1,zp b2] w0 (zpg ar zpd n ((k x).bind g) F w0):=by
 refine kN Tryz.func379 rfl 11 rfl rfl fun fr r hB=>?_;refine aa (af ?_)
 refine za7 (.cells (kq zpd) 119 (0,0)) r (fun R=>za6 zpI) rfl fun fr b3 w1 q1 r=>wn ?_;have h1:=keep q1.below h1
 have h2:=keep q1.below h2;have e3:=q1.eq;have z1:=q1.size;have h3:=q1.at_;have hB:=hB.trans (q1.below.mono hB.size);have zB:=hB.size;refine aa ?_;refine zaz 5 [.val (.pointer (some ⟨b1,6,none⟩)),.val (kf nf n1 n2),.val (U x),.pred (RepAt ar zpy n (k x) F w0.heap.size b3) RepAt.stable,.val (kf ff f1 f2)] mixed r kz (zaF trivial (zaF trivial (zaF trivial (zaF trivial (zaF trivial zas))))) ?_ ?_
 ·
  refine ec r (fun _ u _ b d s=>za3 s (b:=b1) (o:=0) rfl zol bz) ?_;refine zbl r rfl (fun fr1 u w' hb' hd r'=>?_) ?_
  ·
   obtain ⟨d0,_⟩:=hd;exact za4 r' (v:=kf nf n1 n2) d0 (keep hb' h1) zsB rfl bz
  refine ec r (fun _ u _ b d s=>zap s rfl bz) ?_;refine zbl r rfl (fun fr1 u w' hb' hd r'=>?_) ?_
  ·
   obtain ⟨d0,d1,_⟩:=hd;have zb:=hb'.size;have zb:w1.heap.size≤w'.heap.size:=zb;have hB':Below w0.heap.size w0 w':=hB.trans (Below.mono (w:=w1) ⟨hb'.os,hb'.tape,hb'.output,hb'.size,hb'.block⟩ hB.size);have d0:u 1=kf nf n1 n2:=d0;have d1:u 2=.int .u64 x:=d1;refine zc6 r' (fs:=n1) (cs:=n2) d0 d1 hk.at_.1 ((hk.at_.2 n (Nat.lt_succ_self n) x w' (Same.below hB' hF) hB'.size).mono ?_);rintro _ w2 ⟨v,rfl,hb2,hr2⟩;refine ⟨v,rfl,hb2,RepAt.zlr (fun b h=>ai (hF b h) hB'.size) kw hB'.size hb2 (Rep.mono ?_ (Same.refl _ _) (Nat.le_refl _) n _ _ hr2)⟩
   rintro b (h | h)
   · exact .inl (.inl h)
   · exact .inr h
  refine ec r (fun _ u _ b d s=>za4 s rfl (keep b h2) zr3 rfl bz) ?_;exact zaN
 intro fr u w2 hb hΦ _ r;obtain ⟨_,hr3,_,hr⟩:RepAt ar zpy n (k x) F w0.heap.size b3 (u 3) w2:=hΦ 3 ke;have r:=r.congr (sc (hΦ 4 ke) rfl);have z2:=hb.size;have h1:=keep hb h1;have h2:=keep hb h2;have h3:=keep hb h3;have hB2:=hB.trans (hb.mono hB.size);have zB2:=hB2.size;have hF1:∀ b,(kW F w0 w2 b3) b→b<w2.heap.size:=by rintro b (h | h); exact ai (hF b h) hB2.size; exact h.2.1
 refine kC r (ih (F:=fun b=>F b∨(w0.heap.size≤b∧b<w2.heap.size∧b≠b3)) hF1 hr (hg.mono kw (fun b h=>.inl h) (Same.below hB2 hF) hB2.size)
  (.inr (hg.mono (Nat.le_refl _) (fun b h=>.inl h) (Same.below hB2 hF) hB2.size))) rfl zrq rfl ?_
 rintro _ w3 ⟨v2,rfl,hb2,hr2⟩;refine ⟨_,rfl,fun fr r=>?_⟩
 have z3:=hb2.size;have h3:=keep hb2 h3;have hB3:=hB2.trans (hb2.mono hB2.size);refine kP r hr2.shape rfl rfl h3 zpD rfl rfl fun w4 u4 r=>wn ?_;have z4:=u4.size
 have h3:=u4.at_;have hB4:=u4.below hB3 kw
 refine ac ?_;have hs:=hr2.shape.cells;refine za5 r rfl rfl h3 (k:=7) hs.1 zpE ?_;rw [←hs.2.2];exact zpg.fin hB4 hr2 u4 yac yaa kw kw kw
theorem zhn (n:Nat):ze8 n:=by
 induction n using Nat.strongRecOn with
 | _ n ih=>
 intro F w0 hF t pv fv g hp hf hd;obtain ⟨ff,f1,f2,hcf,rfl,hff⟩:=id hf;cases t with
 | cut=>unfold Rep at hp; exact hp.elim
 | done x0=>
  have hf:=hd.resolve_left yay
  unfold Rep at hp
  subst hp;refine enter (l:=[.agg (zp9 true (zpy.cells x0) 0 0 0 0 .nilFunc),kf ff f1 f2]) Tryz.func348 rfl 15 rfl rfl fun fr r=>?_;have hB:=Below.refl w0.heap.size w0
  refine aa (af ?_);refine kX 318 (.agg (zp9 true (zpy.cells x0) 0 0 0 0 .nilFunc)) r rfl rfl fun b1 w1 q1 r=>?_;refine kX 290 (kf ff f1 f2) r rfl rfl fun b2 w2 q2 r=>?_
  refine za7 (.cells (kq zpd) 119 (0,0)) r (fun R=>za6 zpI) rfl fun fr b3 w3 q3 r=>aj ?_;have h1:=keep q3.below (keep q2.below q1.at_)
  have h2:=keep q3.below q2.at_;have h3:=q3.at_;have e1:=q1.eq; have e2:=q2.eq; have e3:=q3.eq; have z1:=q1.size; have z2:=q2.size; have z3:=q3.size;have hB:=((hB.trans q1.below).trans (q2.below.mono kw)).trans (q3.below.mono kw)
  have zB:=hB.size;refine aa (aa (af (za0 (zp b1) r (fun R=>za3 r (o:=0) rfl zn9) rfl fun fr r=>?_)));refine za0 (.bool true) r (fun R=>za4 r (v:=.bool true) rfl h1 to4 rfl) rfl fun fr r=>aj ?_
  refine ae (t:=true) (r.ev rfl) (fun _=>?_) (fun h=>by cases h)
  refine aa (af (za0 (kf ff f1 f2) r (fun R=>za4 r (v:=kf ff f1 f2) rfl h2 zr3 rfl) rfl fun fr r=>za0 (.pointer (some ⟨b1,1,none⟩)) r (fun R=>za3 r (o:=0) rfl zoB) rfl fun fr r=>za0 (.bool x0) r (fun R=>za4 r (v:=(.bool x0)) rfl h1 to4 rfl) rfl fun fr r=>?_));refine zbo r (hf.at_.2 n (Nat.lt_succ_self n) x0 w3 (Same.below hB hF) hB.size) (fun R hc=>zdR r rfl rfl hf.at_.1 hc) rfl ?_
  rintro _ w4 ⟨v,rfl,hb,hr⟩;refine ⟨_,rfl,fun fr r=>?_⟩
  have z4:=hb.size;have h3:=keep hb h3;have hB:=hB.trans (hb.mono hB.size);refine kP r hr.shape rfl rfl h3 zpD rfl rfl fun w5 u5 r=>aj ?_;have z5:=u5.size
  have h3:=u5.at_;have hB:=u5.below hB kw
  refine ac ?_;have hs:=hr.shape.cells;refine za5 r rfl rfl h3 (k:=7) hs.1 zpE ?_;rw [←hs.2.2];exact zpg.fin hB hr u5 (fun b hb=>.inl hb) (fun h=>by have:=hF _ h; omega) kw kw kw
 | act op at_ a b k=>
  obtain ⟨nf,n1,n2,hcn,rfl,hk⟩:∃ (nf:FuncId) (n1 n2:List Value),zp7 ar nf=true∧pv=.agg (zp9 false zpy.zero op at_ a b (kf nf n1 n2))∧FnT ar zpy u64 n F w0 (kf nf n1 n2) k:=by
   exact Rep.zcH hp
  refine enter (l:=[.agg (zp9 false zpy.zero op at_ a b (kf nf n1 n2)),kf ff f1 f2]) Tryz.func348 rfl 15 rfl rfl fun fr r=>?_;have hB:=Below.refl w0.heap.size w0
  refine aa (af ?_);refine kX 318 (.agg (zp9 false zpy.zero op at_ a b (kf nf n1 n2))) r rfl rfl fun b1 w1 q1 r=>?_;refine kX 290 (kf ff f1 f2) r rfl rfl fun b2 w2 q2 r=>?_
  refine za7 (.cells (kq zpd) 119 (0,0)) r (fun R=>za6 zpI) rfl fun fr b3 w3 q3 r=>aj ?_;have h1:=keep q3.below (keep q2.below q1.at_)
  have h2:=keep q3.below q2.at_;have h3:=q3.at_;have e1:=q1.eq; have e2:=q2.eq; have e3:=q3.eq; have z1:=q1.size; have z2:=q2.size; have z3:=q3.size;have hB:=((hB.trans q1.below).trans (q2.below.mono kw)).trans (q3.below.mono kw)
  have zB:=hB.size;refine aa (aa (af (za0 (zp b1) r (fun R=>za3 r (o:=0) rfl zn9) rfl fun fr r=>?_)));refine za0 (.bool false) r (fun R=>za4 r (v:=.bool false) rfl h1 to4 rfl) rfl fun fr r=>aj ?_
  refine ae (t:=false) (r.ev rfl) (fun h=>by cases h) (fun _=>ag ?_);refine aa (af (za0 (.pointer (some ⟨b1,2,none⟩)) r (fun R=>za3 r (o:=0) rfl zoG) rfl fun fr r=>kG (zpm (⟨op,at_,a,b⟩:Access)) 4 r rfl h1 ta38 rfl rfl fun r=>za0 (.func (.func 379) #[] #[zp b1,zp b2]) r (fun R=>zae r rfl) rfl fun fr r=>?_))
  have hF1:∀ b,(fun b=>F b∨b=b1∨b=b2) b→b<w3.heap.size:=by rintro b (h | h | h); exact ai (hF b h) hB.size; omega; omega
  refine kC r (ze6 (F:=fun b=>F b∨b=b1∨b=b2) (n:=n) hF1 ⟨op,at_,a,b⟩ (a1:=fun x=>(k x).bind g) (show FnT ar zpd u64 n (fun b=>F b∨b=b1∨b=b2) w3 (kf 379 [] [zp b1,zp b2]) (fun x=>(k x).bind g) from
   ⟨379,[],[zp b1,zp b2],ztI,rfl,fun m hm x w' hs hz=>zhq (ih m hm) (fun b hb=>ai (hF1 b hb) hz) (.inr (.inl rfl)) (hs.at_ (.inr (.inl rfl)) h1) (.inr (.inr rfl)) (hs.at_ (.inr (.inr rfl)) h2)
    (hk.mono kw (fun b h=>.inl h) ((Same.below hB hF).trans (hs.sub (fun b h=>.inl h))) (Nat.le_trans hB.size hz)) (hf.mono kw (fun b h=>.inl h) ((Same.below hB hF).trans (hs.sub (fun b h=>.inl h))) (Nat.le_trans hB.size hz)) x⟩)) rfl zqx rfl ?_
  rintro _ w4 ⟨v,rfl,hb,hr⟩;refine ⟨_,rfl,fun fr r=>?_⟩
  have z4:=hb.size;have h3:=keep hb h3;have hB:=hB.trans (hb.mono hB.size);refine kP r hr.shape rfl rfl h3 zpD rfl rfl fun w5 u5 r=>aj ?_;have z5:=u5.size
  have h3:=u5.at_;have hB:=u5.below hB kw
  refine ac ?_;have hs:=hr.shape.cells;refine za5 r rfl rfl h3 (k:=7) hs.1 zpE ?_;rw [←hs.2.2];exact zpg.fin hB hr u5 yaf yat kw kw kw
theorem zg1 (hF:kH F w0) {t:T (Bool)} {pv fv:Value} {g:Bool→T (Int)} (hp:Rep ar zpy n t F w0 pv) (hf:FnT ar zpd boolE (n+1) F w0 fv g) :
  Calls ar 348 #[pv,fv] w0 (zpg ar zpd n (t.bind g) F w0):=zhn n hF hp (hf.mono kw (fun b h=>h) (Same.refl _ _) (Nat.le_refl _)) (.inr hf)
def zdE (n:Nat):Prop:=∀ {F:Nat→Prop} {w0:World},(∀ b,F b→b<w0.heap.size)→∀ {t:T (Unit)} {pv fv:Value} {g:Unit→T (Unit)},Rep ar zpc n t F w0 pv→FnT ar zpc noneE n F w0 fv g→
  (t.zps=false∨FnT ar zpc noneE (n+1) F w0 fv g)→Calls ar 352 #[pv,fv] w0 (zpg ar zpc n (t.bind g) F w0)
theorem zgR {n:Nat} (ih:zdE n) {F:Nat→Prop} {w0:World} (hF:∀ b,F b→b<w0.heap.size) {op at_ a b:Int} {nf:FuncId} {n1 n2:List Value} {k:Int→T (Unit)} {ff:FuncId} {f1 f2:List Value} {g:Unit→T (Unit)}
    {b1 b2:Nat} (F1:F b1) (h1:w0.heap[b1]?=some (.cells (zp9 false zpc.zero op at_ a b (kf nf n1 n2)) 133 (0,0))) (F2:F b2) (h2:w0.heap[b2]?=some (.cells #[kf ff f1 f2] 296 (0,0)))
    (hk:FnT ar zpc u64 (n+1) F w0 (kf nf n1 n2) k) (hg:FnT ar zpc noneE (n+1) F w0 (kf ff f1 f2) g) (x:Int) :
    Calls ar 385 #[.int .u64 x,zp b1,zp b2] w0 (zpg ar zpc n ((k x).bind g) F w0):=by
 refine kN Tryz.func385 rfl 11 rfl rfl fun fr r hB=>?_;refine aa (af ?_)
 refine za7 (.cells (kq zpc) 133 (0,0)) r (fun R=>za6 zpW) rfl fun fr b3 w1 q1 r=>wn ?_;have h1:=keep q1.below h1
 have h2:=keep q1.below h2;have e3:=q1.eq;have z1:=q1.size;have h3:=q1.at_;have hB:=hB.trans (q1.below.mono hB.size);have zB:=hB.size;refine aa ?_;refine zaz 5 [.val (.pointer (some ⟨b1,5,none⟩)),.val (kf nf n1 n2),.val (U x),.pred (RepAt ar zpc n (k x) F w0.heap.size b3) RepAt.stable,.val (kf ff f1 f2)] mixed r kz (zaF trivial (zaF trivial (zaF trivial (zaF trivial (zaF trivial zas))))) ?_ ?_
 ·
  refine ec r (fun _ u _ b d s=>za3 s (b:=b1) (o:=0) rfl zjE bz) ?_;refine zbl r rfl (fun fr1 u w' hb' hd r'=>?_) ?_
  ·
   obtain ⟨d0,_⟩:=hd;exact za4 r' (v:=kf nf n1 n2) d0 (keep hb' h1) zqt rfl bz
  refine ec r (fun _ u _ b d s=>zap s rfl bz) ?_;refine zbl r rfl (fun fr1 u w' hb' hd r'=>?_) ?_
  ·
   obtain ⟨d0,d1,_⟩:=hd;have zb:=hb'.size;have zb:w1.heap.size≤w'.heap.size:=zb;have hB':Below w0.heap.size w0 w':=hB.trans (Below.mono (w:=w1) ⟨hb'.os,hb'.tape,hb'.output,hb'.size,hb'.block⟩ hB.size);have d0:u 1=kf nf n1 n2:=d0;have d1:u 2=.int .u64 x:=d1;refine zc6 r' (fs:=n1) (cs:=n2) d0 d1 hk.at_.1 ((hk.at_.2 n (Nat.lt_succ_self n) x w' (Same.below hB' hF) hB'.size).mono ?_);rintro _ w2 ⟨v,rfl,hb2,hr2⟩;refine ⟨v,rfl,hb2,RepAt.zlr (fun b h=>ai (hF b h) hB'.size) kw hB'.size hb2 (Rep.mono ?_ (Same.refl _ _) (Nat.le_refl _) n _ _ hr2)⟩
   rintro b (h | h)
   · exact .inl (.inl h)
   · exact .inr h
  refine ec r (fun _ u _ b d s=>za4 s rfl (keep b h2) zrW rfl bz) ?_;exact zaN
 intro fr u w2 hb hΦ _ r;obtain ⟨_,hr3,_,hr⟩:RepAt ar zpc n (k x) F w0.heap.size b3 (u 3) w2:=hΦ 3 ke;have r:=r.congr (sc (hΦ 4 ke) rfl);have z2:=hb.size;have h1:=keep hb h1;have h2:=keep hb h2;have h3:=keep hb h3;have hB2:=hB.trans (hb.mono hB.size);have zB2:=hB2.size;have hF1:∀ b,(kW F w0 w2 b3) b→b<w2.heap.size:=by rintro b (h | h); exact ai (hF b h) hB2.size; exact h.2.1
 refine kC r (ih (F:=fun b=>F b∨(w0.heap.size≤b∧b<w2.heap.size∧b≠b3)) hF1 hr (hg.mono kw (fun b h=>.inl h) (Same.below hB2 hF) hB2.size)
  (.inr (hg.mono (Nat.le_refl _) (fun b h=>.inl h) (Same.below hB2 hF) hB2.size))) rfl zs5 rfl ?_
 rintro _ w3 ⟨v2,rfl,hb2,hr2⟩;refine ⟨_,rfl,fun fr r=>?_⟩
 have z3:=hb2.size;have h3:=keep hb2 h3;have hB3:=hB2.trans (hb2.mono hB2.size);refine kP r hr2.shape rfl rfl h3 zpT rfl rfl fun w4 u4 r=>wn ?_;have z4:=u4.size
 have h3:=u4.at_;have hB4:=u4.below hB3 kw
 refine ac ?_;have hs:=hr2.shape.cells;refine za5 r rfl rfl h3 (k:=6) hs.1 zpS ?_;rw [←hs.2.2];exact zpg.fin hB4 hr2 u4 yac yaa kw kw kw
theorem zgH (n:Nat):zdE n:=by
 induction n using Nat.strongRecOn with
 | _ n ih=>
 intro F w0 hF t pv fv g hp hf hd;obtain ⟨ff,f1,f2,hcf,rfl,hff⟩:=id hf;cases t with
 | cut=>unfold Rep at hp; exact hp.elim
 | done x0=>
  have hf:=hd.resolve_left yay
  unfold Rep at hp
  subst hp;refine enter (l:=[.agg (zp9 true (zpc.cells x0) 0 0 0 0 .nilFunc),kf ff f1 f2]) Tryz.func352 rfl 15 rfl rfl fun fr r=>?_;have hB:=Below.refl w0.heap.size w0
  refine aa (af ?_);refine kX 133 (.agg (zp9 true (zpc.cells x0) 0 0 0 0 .nilFunc)) r rfl rfl fun b1 w1 q1 r=>?_;refine kX 296 (kf ff f1 f2) r rfl rfl fun b2 w2 q2 r=>?_
  refine za7 (.cells (kq zpc) 133 (0,0)) r (fun R=>za6 zpW) rfl fun fr b3 w3 q3 r=>aj ?_;have h1:=keep q3.below (keep q2.below q1.at_)
  have h2:=keep q3.below q2.at_;have h3:=q3.at_;have e1:=q1.eq; have e2:=q2.eq; have e3:=q3.eq; have z1:=q1.size; have z2:=q2.size; have z3:=q3.size;have hB:=((hB.trans q1.below).trans (q2.below.mono kw)).trans (q3.below.mono kw)
  have zB:=hB.size;refine aa (aa (af (za0 (zp b1) r (fun R=>za3 r (o:=0) rfl zf3) rfl fun fr r=>?_)));refine za0 (.bool true) r (fun R=>za4 r (v:=.bool true) rfl h1 to4 rfl) rfl fun fr r=>aj ?_
  refine ae (t:=true) (r.ev rfl) (fun _=>?_) (fun h=>by cases h)
  refine aa (af (za0 (kf ff f1 f2) r (fun R=>za4 r (v:=kf ff f1 f2) rfl h2 zrW rfl) rfl fun fr r=>?_));refine zjn b1 1 r (fun R=>zex r rfl zqw h1) rfl fun fr sp r=>za0 (.agg #[]) r (fun R=>zf4 r rfl zqh) rfl fun fr r=>?_
  refine zbo r (hf.at_.2 n (Nat.lt_succ_self n) x0 w3 (Same.below hB hF) hB.size) (fun R hc=>zdR r rfl rfl hf.at_.1 hc) rfl ?_;rintro _ w4 ⟨v,rfl,hb,hr⟩
  refine ⟨_,rfl,fun fr r=>?_⟩
  have z4:=hb.size;have h3:=keep hb h3;have hB:=hB.trans (hb.mono hB.size);refine kP r hr.shape rfl rfl h3 zpT rfl rfl fun w5 u5 r=>aj ?_;have z5:=u5.size
  have h3:=u5.at_;have hB:=u5.below hB kw
  refine ac ?_;have hs:=hr.shape.cells;refine za5 r rfl rfl h3 (k:=6) hs.1 zpS ?_;rw [←hs.2.2];exact zpg.fin hB hr u5 (fun b hb=>.inl hb) (fun h=>by have:=hF _ h; omega) kw kw kw
 | act op at_ a b k=>
  obtain ⟨nf,n1,n2,hcn,rfl,hk⟩:∃ (nf:FuncId) (n1 n2:List Value),zp7 ar nf=true∧pv=.agg (zp9 false zpc.zero op at_ a b (kf nf n1 n2))∧FnT ar zpc u64 n F w0 (kf nf n1 n2) k:=by
   exact Rep.zcH hp
  refine enter (l:=[.agg (zp9 false zpc.zero op at_ a b (kf nf n1 n2)),kf ff f1 f2]) Tryz.func352 rfl 15 rfl rfl fun fr r=>?_;have hB:=Below.refl w0.heap.size w0
  refine aa (af ?_);refine kX 133 (.agg (zp9 false zpc.zero op at_ a b (kf nf n1 n2))) r rfl rfl fun b1 w1 q1 r=>?_;refine kX 296 (kf ff f1 f2) r rfl rfl fun b2 w2 q2 r=>?_
  refine za7 (.cells (kq zpc) 133 (0,0)) r (fun R=>za6 zpW) rfl fun fr b3 w3 q3 r=>aj ?_;have h1:=keep q3.below (keep q2.below q1.at_)
  have h2:=keep q3.below q2.at_;have h3:=q3.at_;have e1:=q1.eq; have e2:=q2.eq; have e3:=q3.eq; have z1:=q1.size; have z2:=q2.size; have z3:=q3.size;have hB:=((hB.trans q1.below).trans (q2.below.mono kw)).trans (q3.below.mono kw)
  have zB:=hB.size;refine aa (aa (af (za0 (zp b1) r (fun R=>za3 r (o:=0) rfl zf3) rfl fun fr r=>?_)));refine za0 (.bool false) r (fun R=>za4 r (v:=.bool false) rfl h1 to4 rfl) rfl fun fr r=>aj ?_
  refine ae (t:=false) (r.ev rfl) (fun h=>by cases h) (fun _=>ag ?_);refine aa (af (za0 (.pointer (some ⟨b1,1,none⟩)) r (fun R=>za3 r (o:=0) rfl zjI) rfl fun fr r=>kG (zpm (⟨op,at_,a,b⟩:Access)) 4 r rfl h1 ta38 rfl rfl fun r=>za0 (.func (.func 385) #[] #[zp b1,zp b2]) r (fun R=>zae r rfl) rfl fun fr r=>?_))
  have hF1:∀ b,(fun b=>F b∨b=b1∨b=b2) b→b<w3.heap.size:=by rintro b (h | h | h); exact ai (hF b h) hB.size; omega; omega
  refine kC r (zhx (F:=fun b=>F b∨b=b1∨b=b2) (n:=n) hF1 ⟨op,at_,a,b⟩ (a1:=fun x=>(k x).bind g) (show FnT ar zpc u64 n (fun b=>F b∨b=b1∨b=b2) w3 (kf 385 [] [zp b1,zp b2]) (fun x=>(k x).bind g) from
   ⟨385,[],[zp b1,zp b2],ztV,rfl,fun m hm x w' hs hz=>zgR (ih m hm) (fun b hb=>ai (hF1 b hb) hz) (.inr (.inl rfl)) (hs.at_ (.inr (.inl rfl)) h1) (.inr (.inr rfl)) (hs.at_ (.inr (.inr rfl)) h2)
    (hk.mono kw (fun b h=>.inl h) ((Same.below hB hF).trans (hs.sub (fun b h=>.inl h))) (Nat.le_trans hB.size hz)) (hf.mono kw (fun b h=>.inl h) ((Same.below hB hF).trans (hs.sub (fun b h=>.inl h))) (Nat.le_trans hB.size hz)) x⟩)) rfl zrw rfl ?_
  rintro _ w4 ⟨v,rfl,hb,hr⟩;refine ⟨_,rfl,fun fr r=>?_⟩
  have z4:=hb.size;have h3:=keep hb h3;have hB:=hB.trans (hb.mono hB.size);refine kP r hr.shape rfl rfl h3 zpT rfl rfl fun w5 u5 r=>aj ?_;have z5:=u5.size
  have h3:=u5.at_;have hB:=u5.below hB kw
  refine ac ?_;have hs:=hr.shape.cells;refine za5 r rfl rfl h3 (k:=6) hs.1 zpS ?_;rw [←hs.2.2];exact zpg.fin hB hr u5 yaf yat kw kw kw
theorem zfw (hF:kH F w0) {t:T (Unit)} {pv fv:Value} {g:Unit→T (Unit)} (hp:Rep ar zpc n t F w0 pv) (hf:FnT ar zpc noneE n F w0 fv g) (hd:t.zps=false) :
  Calls ar 352 #[pv,fv] w0 (zpg ar zpc n (t.bind g) F w0):=zgH n hF hp hf (.inl hd)
def zdb (n:Nat):Prop:=∀ {F:Nat→Prop} {w0:World},(∀ b,F b→b<w0.heap.size)→∀ {t:T (Unit)} {pv fv:Value} {g:Unit→T (Int)},Rep ar zpc n t F w0 pv→FnT ar zpp noneE n F w0 fv g→
  (t.zps=false∨FnT ar zpp noneE (n+1) F w0 fv g)→Calls ar 360 #[pv,fv] w0 (zpg ar zpp n (t.bind g) F w0)
theorem zfT {n:Nat} (ih:zdb n) {F:Nat→Prop} {w0:World} (hF:∀ b,F b→b<w0.heap.size) {op at_ a b:Int} {nf:FuncId} {n1 n2:List Value} {k:Int→T (Unit)} {ff:FuncId} {f1 f2:List Value} {g:Unit→T (Int)}
    {b1 b2:Nat} (F1:F b1) (h1:w0.heap[b1]?=some (.cells (zp9 false zpc.zero op at_ a b (kf nf n1 n2)) 133 (0,0))) (F2:F b2) (h2:w0.heap[b2]?=some (.cells #[kf ff f1 f2] 324 (0,0)))
    (hk:FnT ar zpc u64 (n+1) F w0 (kf nf n1 n2) k) (hg:FnT ar zpp noneE (n+1) F w0 (kf ff f1 f2) g) (x:Int) :
    Calls ar 386 #[.int .u64 x,zp b1,zp b2] w0 (zpg ar zpp n ((k x).bind g) F w0):=by
 refine kN Tryz.func386 rfl 11 rfl rfl fun fr r hB=>?_;refine aa (af ?_)
 refine za7 (.cells (kq zpp) 271 (0,0)) r (fun R=>za6 zq6) rfl fun fr b3 w1 q1 r=>wn ?_;have h1:=keep q1.below h1
 have h2:=keep q1.below h2;have e3:=q1.eq;have z1:=q1.size;have h3:=q1.at_;have hB:=hB.trans (q1.below.mono hB.size);have zB:=hB.size;refine aa ?_;refine zaz 5 [.val (.pointer (some ⟨b1,5,none⟩)),.val (kf nf n1 n2),.val (U x),.pred (RepAt ar zpc n (k x) F w0.heap.size b3) RepAt.stable,.val (kf ff f1 f2)] mixed r kz (zaF trivial (zaF trivial (zaF trivial (zaF trivial (zaF trivial zas))))) ?_ ?_
 ·
  refine ec r (fun _ u _ b d s=>za3 s (b:=b1) (o:=0) rfl zjE bz) ?_;refine zbl r rfl (fun fr1 u w' hb' hd r'=>?_) ?_
  ·
   obtain ⟨d0,_⟩:=hd;exact za4 r' (v:=kf nf n1 n2) d0 (keep hb' h1) zqt rfl bz
  refine ec r (fun _ u _ b d s=>zap s rfl bz) ?_;refine zbl r rfl (fun fr1 u w' hb' hd r'=>?_) ?_
  ·
   obtain ⟨d0,d1,_⟩:=hd;have zb:=hb'.size;have zb:w1.heap.size≤w'.heap.size:=zb;have hB':Below w0.heap.size w0 w':=hB.trans (Below.mono (w:=w1) ⟨hb'.os,hb'.tape,hb'.output,hb'.size,hb'.block⟩ hB.size);have d0:u 1=kf nf n1 n2:=d0;have d1:u 2=.int .u64 x:=d1;refine zc6 r' (fs:=n1) (cs:=n2) d0 d1 hk.at_.1 ((hk.at_.2 n (Nat.lt_succ_self n) x w' (Same.below hB' hF) hB'.size).mono ?_);rintro _ w2 ⟨v,rfl,hb2,hr2⟩;refine ⟨v,rfl,hb2,RepAt.zlr (fun b h=>ai (hF b h) hB'.size) kw hB'.size hb2 (Rep.mono ?_ (Same.refl _ _) (Nat.le_refl _) n _ _ hr2)⟩
   rintro b (h | h)
   · exact .inl (.inl h)
   · exact .inr h
  refine ec r (fun _ u _ b d s=>za4 s rfl (keep b h2) zss rfl bz) ?_;exact zaN
 intro fr u w2 hb hΦ _ r;obtain ⟨_,hr3,_,hr⟩:RepAt ar zpc n (k x) F w0.heap.size b3 (u 3) w2:=hΦ 3 ke;have r:=r.congr (sc (hΦ 4 ke) rfl);have z2:=hb.size;have h1:=keep hb h1;have h2:=keep hb h2;have h3:=keep hb h3;have hB2:=hB.trans (hb.mono hB.size);have zB2:=hB2.size;have hF1:∀ b,(kW F w0 w2 b3) b→b<w2.heap.size:=by rintro b (h | h); exact ai (hF b h) hB2.size; exact h.2.1
 refine kC r (ih (F:=fun b=>F b∨(w0.heap.size≤b∧b<w2.heap.size∧b≠b3)) hF1 hr (hg.mono kw (fun b h=>.inl h) (Same.below hB2 hF) hB2.size)
  (.inr (hg.mono (Nat.le_refl _) (fun b h=>.inl h) (Same.below hB2 hF) hB2.size))) rfl zrR rfl ?_
 rintro _ w3 ⟨v2,rfl,hb2,hr2⟩;refine ⟨_,rfl,fun fr r=>?_⟩
 have z3:=hb2.size;have h3:=keep hb2 h3;have hB3:=hB2.trans (hb2.mono hB2.size);refine kP r hr2.shape rfl rfl h3 zq3 rfl rfl fun w4 u4 r=>wn ?_;have z4:=u4.size
 have h3:=u4.at_;have hB4:=u4.below hB3 kw
 refine ac ?_;have hs:=hr2.shape.cells;refine za5 r rfl rfl h3 (k:=7) hs.1 zq2 ?_;rw [←hs.2.2];exact zpg.fin hB4 hr2 u4 yac yaa kw kw kw
theorem zg9 (n:Nat):zdb n:=by
 induction n using Nat.strongRecOn with
 | _ n ih=>
 intro F w0 hF t pv fv g hp hf hd;obtain ⟨ff,f1,f2,hcf,rfl,hff⟩:=id hf;cases t with
 | cut=>unfold Rep at hp; exact hp.elim
 | done x0=>
  have hf:=hd.resolve_left yay
  unfold Rep at hp
  subst hp;refine enter (l:=[.agg (zp9 true (zpc.cells x0) 0 0 0 0 .nilFunc),kf ff f1 f2]) Tryz.func360 rfl 15 rfl rfl fun fr r=>?_;have hB:=Below.refl w0.heap.size w0
  refine aa (af ?_);refine kX 133 (.agg (zp9 true (zpc.cells x0) 0 0 0 0 .nilFunc)) r rfl rfl fun b1 w1 q1 r=>?_;refine kX 324 (kf ff f1 f2) r rfl rfl fun b2 w2 q2 r=>?_
  refine za7 (.cells (kq zpp) 271 (0,0)) r (fun R=>za6 zq6) rfl fun fr b3 w3 q3 r=>aj ?_;have h1:=keep q3.below (keep q2.below q1.at_)
  have h2:=keep q3.below q2.at_;have h3:=q3.at_;have e1:=q1.eq; have e2:=q2.eq; have e3:=q3.eq; have z1:=q1.size; have z2:=q2.size; have z3:=q3.size;have hB:=((hB.trans q1.below).trans (q2.below.mono kw)).trans (q3.below.mono kw)
  have zB:=hB.size;refine aa (aa (af (za0 (zp b1) r (fun R=>za3 r (o:=0) rfl zf3) rfl fun fr r=>?_)));refine za0 (.bool true) r (fun R=>za4 r (v:=.bool true) rfl h1 to4 rfl) rfl fun fr r=>aj ?_
  refine ae (t:=true) (r.ev rfl) (fun _=>?_) (fun h=>by cases h)
  refine aa (af (za0 (kf ff f1 f2) r (fun R=>za4 r (v:=kf ff f1 f2) rfl h2 zss rfl) rfl fun fr r=>?_));refine zjn b1 1 r (fun R=>zex r rfl zqw h1) rfl fun fr sp r=>za0 (.agg #[]) r (fun R=>zf4 r rfl zqh) rfl fun fr r=>?_
  refine zbo r (hf.at_.2 n (Nat.lt_succ_self n) x0 w3 (Same.below hB hF) hB.size) (fun R hc=>zdR r rfl rfl hf.at_.1 hc) rfl ?_;rintro _ w4 ⟨v,rfl,hb,hr⟩
  refine ⟨_,rfl,fun fr r=>?_⟩
  have z4:=hb.size;have h3:=keep hb h3;have hB:=hB.trans (hb.mono hB.size);refine kP r hr.shape rfl rfl h3 zq3 rfl rfl fun w5 u5 r=>aj ?_;have z5:=u5.size
  have h3:=u5.at_;have hB:=u5.below hB kw
  refine ac ?_;have hs:=hr.shape.cells;refine za5 r rfl rfl h3 (k:=7) hs.1 zq2 ?_;rw [←hs.2.2];exact zpg.fin hB hr u5 (fun b hb=>.inl hb) (fun h=>by have:=hF _ h; omega) kw kw kw
 | act op at_ a b k=>
  obtain ⟨nf,n1,n2,hcn,rfl,hk⟩:∃ (nf:FuncId) (n1 n2:List Value),zp7 ar nf=true∧pv=.agg (zp9 false zpc.zero op at_ a b (kf nf n1 n2))∧FnT ar zpc u64 n F w0 (kf nf n1 n2) k:=by
   exact Rep.zcH hp
  refine enter (l:=[.agg (zp9 false zpc.zero op at_ a b (kf nf n1 n2)),kf ff f1 f2]) Tryz.func360 rfl 15 rfl rfl fun fr r=>?_;have hB:=Below.refl w0.heap.size w0
  refine aa (af ?_);refine kX 133 (.agg (zp9 false zpc.zero op at_ a b (kf nf n1 n2))) r rfl rfl fun b1 w1 q1 r=>?_;refine kX 324 (kf ff f1 f2) r rfl rfl fun b2 w2 q2 r=>?_
  refine za7 (.cells (kq zpp) 271 (0,0)) r (fun R=>za6 zq6) rfl fun fr b3 w3 q3 r=>aj ?_;have h1:=keep q3.below (keep q2.below q1.at_)
  have h2:=keep q3.below q2.at_;have h3:=q3.at_;have e1:=q1.eq; have e2:=q2.eq; have e3:=q3.eq; have z1:=q1.size; have z2:=q2.size; have z3:=q3.size;have hB:=((hB.trans q1.below).trans (q2.below.mono kw)).trans (q3.below.mono kw)
  have zB:=hB.size;refine aa (aa (af (za0 (zp b1) r (fun R=>za3 r (o:=0) rfl zf3) rfl fun fr r=>?_)));refine za0 (.bool false) r (fun R=>za4 r (v:=.bool false) rfl h1 to4 rfl) rfl fun fr r=>aj ?_
  refine ae (t:=false) (r.ev rfl) (fun h=>by cases h) (fun _=>ag ?_);refine aa (af (za0 (.pointer (some ⟨b1,1,none⟩)) r (fun R=>za3 r (o:=0) rfl zjI) rfl fun fr r=>kG (zpm (⟨op,at_,a,b⟩:Access)) 4 r rfl h1 ta38 rfl rfl fun r=>za0 (.func (.func 386) #[] #[zp b1,zp b2]) r (fun R=>zae r rfl) rfl fun fr r=>?_))
  have hF1:∀ b,(fun b=>F b∨b=b1∨b=b2) b→b<w3.heap.size:=by rintro b (h | h | h); exact ai (hF b h) hB.size; omega; omega
  refine kC r (zgg (F:=fun b=>F b∨b=b1∨b=b2) (n:=n) hF1 ⟨op,at_,a,b⟩ (a1:=fun x=>(k x).bind g) (show FnT ar zpp u64 n (fun b=>F b∨b=b1∨b=b2) w3 (kf 386 [] [zp b1,zp b2]) (fun x=>(k x).bind g) from
   ⟨386,[],[zp b1,zp b2],zte,rfl,fun m hm x w' hs hz=>zfT (ih m hm) (fun b hb=>ai (hF1 b hb) hz) (.inr (.inl rfl)) (hs.at_ (.inr (.inl rfl)) h1) (.inr (.inr rfl)) (hs.at_ (.inr (.inr rfl)) h2)
    (hk.mono kw (fun b h=>.inl h) ((Same.below hB hF).trans (hs.sub (fun b h=>.inl h))) (Nat.le_trans hB.size hz)) (hf.mono kw (fun b h=>.inl h) ((Same.below hB hF).trans (hs.sub (fun b h=>.inl h))) (Nat.le_trans hB.size hz)) x⟩)) rfl zrA rfl ?_
  rintro _ w4 ⟨v,rfl,hb,hr⟩;refine ⟨_,rfl,fun fr r=>?_⟩
  have z4:=hb.size;have h3:=keep hb h3;have hB:=hB.trans (hb.mono hB.size);refine kP r hr.shape rfl rfl h3 zq3 rfl rfl fun w5 u5 r=>aj ?_;have z5:=u5.size
  have h3:=u5.at_;have hB:=u5.below hB kw
  refine ac ?_;have hs:=hr.shape.cells;refine za5 r rfl rfl h3 (k:=7) hs.1 zq2 ?_;rw [←hs.2.2];exact zpg.fin hB hr u5 yaf yat kw kw kw
theorem zf8 (hF:kH F w0) {t:T (Unit)} {pv fv:Value} {g:Unit→T (Int)} (hp:Rep ar zpc n t F w0 pv) (hf:FnT ar zpp noneE (n+1) F w0 fv g) :
  Calls ar 360 #[pv,fv] w0 (zpg ar zpp n (t.bind g) F w0):=zg9 n hF hp (hf.mono kw (fun b h=>h) (Same.refl _ _) (Nat.le_refl _)) (.inr hf)
def zdD (n:Nat):Prop:=∀ {F:Nat→Prop} {w0:World},(∀ b,F b→b<w0.heap.size)→∀ {t:T (Int)} {pv fv:Value} {g:Int→T (Grant)},Rep ar zpd n t F w0 pv→FnT ar zpk i64 n F w0 fv g→
  (t.zps=false∨FnT ar zpk i64 (n+1) F w0 fv g)→Calls ar 181 #[pv,fv] w0 (zpg ar zpk n (t.bind g) F w0)
theorem zgP {n:Nat} (ih:zdD n) {F:Nat→Prop} {w0:World} (hF:∀ b,F b→b<w0.heap.size) {op at_ a b:Int} {nf:FuncId} {n1 n2:List Value} {k:Int→T (Int)} {ff:FuncId} {f1 f2:List Value} {g:Int→T (Grant)}
    {b1 b2:Nat} (F1:F b1) (h1:w0.heap[b1]?=some (.cells (zp9 false zpd.zero op at_ a b (kf nf n1 n2)) 119 (0,0))) (F2:F b2) (h2:w0.heap[b2]?=some (.cells #[kf ff f1 f2] 233 (0,0)))
    (hk:FnT ar zpd u64 (n+1) F w0 (kf nf n1 n2) k) (hg:FnT ar zpk i64 (n+1) F w0 (kf ff f1 f2) g) (x:Int) :
    Calls ar 275 #[.int .u64 x,zp b1,zp b2] w0 (zpg ar zpk n ((k x).bind g) F w0):=by
 refine kN Tryz.func275 rfl 11 rfl rfl fun fr r hB=>?_;refine aa (af ?_)
 refine za7 (.cells (kq zpk) 116 (0,0)) r (fun R=>za6 zq0) rfl fun fr b3 w1 q1 r=>wn ?_;have h1:=keep q1.below h1
 have h2:=keep q1.below h2;have e3:=q1.eq;have z1:=q1.size;have h3:=q1.at_;have hB:=hB.trans (q1.below.mono hB.size);have zB:=hB.size;refine aa ?_;refine zaz 5 [.val (.pointer (some ⟨b1,6,none⟩)),.val (kf nf n1 n2),.val (U x),.pred (RepAt ar zpd n (k x) F w0.heap.size b3) RepAt.stable,.val (kf ff f1 f2)] mixed r kz (zaF trivial (zaF trivial (zaF trivial (zaF trivial (zaF trivial zas))))) ?_ ?_
 ·
  refine ec r (fun _ u _ b d s=>za3 s (b:=b1) (o:=0) rfl zkV bz) ?_;refine zbl r rfl (fun fr1 u w' hb' hd r'=>?_) ?_
  ·
   obtain ⟨d0,_⟩:=hd;exact za4 r' (v:=kf nf n1 n2) d0 (keep hb' h1) zqE rfl bz
  refine ec r (fun _ u _ b d s=>zap s rfl bz) ?_;refine zbl r rfl (fun fr1 u w' hb' hd r'=>?_) ?_
  ·
   obtain ⟨d0,d1,_⟩:=hd;have zb:=hb'.size;have zb:w1.heap.size≤w'.heap.size:=zb;have hB':Below w0.heap.size w0 w':=hB.trans (Below.mono (w:=w1) ⟨hb'.os,hb'.tape,hb'.output,hb'.size,hb'.block⟩ hB.size);have d0:u 1=kf nf n1 n2:=d0;have d1:u 2=.int .u64 x:=d1;refine zc6 r' (fs:=n1) (cs:=n2) d0 d1 hk.at_.1 ((hk.at_.2 n (Nat.lt_succ_self n) x w' (Same.below hB' hF) hB'.size).mono ?_);rintro _ w2 ⟨v,rfl,hb2,hr2⟩;refine ⟨v,rfl,hb2,RepAt.zlr (fun b h=>ai (hF b h) hB'.size) kw hB'.size hb2 (Rep.mono ?_ (Same.refl _ _) (Nat.le_refl _) n _ _ hr2)⟩
   rintro b (h | h)
   · exact .inl (.inl h)
   · exact .inr h
  refine ec r (fun _ u _ b d s=>za4 s rfl (keep b h2) zr8 rfl bz) ?_;exact zaN
 intro fr u w2 hb hΦ _ r;obtain ⟨_,hr3,_,hr⟩:RepAt ar zpd n (k x) F w0.heap.size b3 (u 3) w2:=hΦ 3 ke;have r:=r.congr (sc (hΦ 4 ke) rfl);have z2:=hb.size;have h1:=keep hb h1;have h2:=keep hb h2;have h3:=keep hb h3;have hB2:=hB.trans (hb.mono hB.size);have zB2:=hB2.size;have hF1:∀ b,(kW F w0 w2 b3) b→b<w2.heap.size:=by rintro b (h | h); exact ai (hF b h) hB2.size; exact h.2.1
 refine kC r (ih (F:=fun b=>F b∨(w0.heap.size≤b∧b<w2.heap.size∧b≠b3)) hF1 hr (hg.mono kw (fun b h=>.inl h) (Same.below hB2 hF) hB2.size)
  (.inr (hg.mono (Nat.le_refl _) (fun b h=>.inl h) (Same.below hB2 hF) hB2.size))) rfl zqD rfl ?_
 rintro _ w3 ⟨v2,rfl,hb2,hr2⟩;refine ⟨_,rfl,fun fr r=>?_⟩
 have z3:=hb2.size;have h3:=keep hb2 h3;have hB3:=hB2.trans (hb2.mono hB2.size);refine kP r hr2.shape rfl rfl h3 zpY rfl rfl fun w4 u4 r=>wn ?_;have z4:=u4.size
 have h3:=u4.at_;have hB4:=u4.below hB3 kw
 refine ac ?_;have hs:=hr2.shape.cells;refine za5 r rfl rfl h3 (k:=9) hs.1 zpZ ?_;rw [←hs.2.2];exact zpg.fin hB4 hr2 u4 yac yaa kw kw kw
theorem zh1 (n:Nat):zdD n:=by
 induction n using Nat.strongRecOn with
 | _ n ih=>
 intro F w0 hF t pv fv g hp hf hd;obtain ⟨ff,f1,f2,hcf,rfl,hff⟩:=id hf;cases t with
 | cut=>unfold Rep at hp; exact hp.elim
 | done x0=>
  have hf:=hd.resolve_left yay
  unfold Rep at hp
  subst hp;refine enter (l:=[.agg (zp9 true (zpd.cells x0) 0 0 0 0 .nilFunc),kf ff f1 f2]) Tryz.func181 rfl 15 rfl rfl fun fr r=>?_;have hB:=Below.refl w0.heap.size w0
  refine aa (af ?_);refine kX 119 (.agg (zp9 true (zpd.cells x0) 0 0 0 0 .nilFunc)) r rfl rfl fun b1 w1 q1 r=>?_;refine kX 233 (kf ff f1 f2) r rfl rfl fun b2 w2 q2 r=>?_
  refine za7 (.cells (kq zpk) 116 (0,0)) r (fun R=>za6 zq0) rfl fun fr b3 w3 q3 r=>aj ?_;have h1:=keep q3.below (keep q2.below q1.at_)
  have h2:=keep q3.below q2.at_;have h3:=q3.at_;have e1:=q1.eq; have e2:=q2.eq; have e3:=q3.eq; have z1:=q1.size; have z2:=q2.size; have z3:=q3.size;have hB:=((hB.trans q1.below).trans (q2.below.mono kw)).trans (q3.below.mono kw)
  have zB:=hB.size;refine aa (aa (af (za0 (zp b1) r (fun R=>za3 r (o:=0) rfl zgS) rfl fun fr r=>?_)));refine za0 (.bool true) r (fun R=>za4 r (v:=.bool true) rfl h1 to4 rfl) rfl fun fr r=>aj ?_
  refine ae (t:=true) (r.ev rfl) (fun _=>?_) (fun h=>by cases h)
  refine aa (af (za0 (kf ff f1 f2) r (fun R=>za4 r (v:=kf ff f1 f2) rfl h2 zr8 rfl) rfl fun fr r=>za0 (.pointer (some ⟨b1,1,none⟩)) r (fun R=>za3 r (o:=0) rfl zl6) rfl fun fr r=>za0 (.int .i64 x0) r (fun R=>za4 r (v:=(.int .i64 x0)) rfl h1 to3 rfl) rfl fun fr r=>?_));refine zbo r (hf.at_.2 n (Nat.lt_succ_self n) x0 w3 (Same.below hB hF) hB.size) (fun R hc=>zdR r rfl rfl hf.at_.1 hc) rfl ?_
  rintro _ w4 ⟨v,rfl,hb,hr⟩;refine ⟨_,rfl,fun fr r=>?_⟩
  have z4:=hb.size;have h3:=keep hb h3;have hB:=hB.trans (hb.mono hB.size);refine kP r hr.shape rfl rfl h3 zpY rfl rfl fun w5 u5 r=>aj ?_;have z5:=u5.size
  have h3:=u5.at_;have hB:=u5.below hB kw
  refine ac ?_;have hs:=hr.shape.cells;refine za5 r rfl rfl h3 (k:=9) hs.1 zpZ ?_;rw [←hs.2.2];exact zpg.fin hB hr u5 (fun b hb=>.inl hb) (fun h=>by have:=hF _ h; omega) kw kw kw
 | act op at_ a b k=>
  obtain ⟨nf,n1,n2,hcn,rfl,hk⟩:∃ (nf:FuncId) (n1 n2:List Value),zp7 ar nf=true∧pv=.agg (zp9 false zpd.zero op at_ a b (kf nf n1 n2))∧FnT ar zpd u64 n F w0 (kf nf n1 n2) k:=by
   exact Rep.zcH hp
  refine enter (l:=[.agg (zp9 false zpd.zero op at_ a b (kf nf n1 n2)),kf ff f1 f2]) Tryz.func181 rfl 15 rfl rfl fun fr r=>?_;have hB:=Below.refl w0.heap.size w0
  refine aa (af ?_);refine kX 119 (.agg (zp9 false zpd.zero op at_ a b (kf nf n1 n2))) r rfl rfl fun b1 w1 q1 r=>?_;refine kX 233 (kf ff f1 f2) r rfl rfl fun b2 w2 q2 r=>?_
  refine za7 (.cells (kq zpk) 116 (0,0)) r (fun R=>za6 zq0) rfl fun fr b3 w3 q3 r=>aj ?_;have h1:=keep q3.below (keep q2.below q1.at_)
  have h2:=keep q3.below q2.at_;have h3:=q3.at_;have e1:=q1.eq; have e2:=q2.eq; have e3:=q3.eq; have z1:=q1.size; have z2:=q2.size; have z3:=q3.size;have hB:=((hB.trans q1.below).trans (q2.below.mono kw)).trans (q3.below.mono kw)
  have zB:=hB.size;refine aa (aa (af (za0 (zp b1) r (fun R=>za3 r (o:=0) rfl zgS) rfl fun fr r=>?_)));refine za0 (.bool false) r (fun R=>za4 r (v:=.bool false) rfl h1 to4 rfl) rfl fun fr r=>aj ?_
  refine ae (t:=false) (r.ev rfl) (fun h=>by cases h) (fun _=>ag ?_);refine aa (af (za0 (.pointer (some ⟨b1,2,none⟩)) r (fun R=>za3 r (o:=0) rfl zkA) rfl fun fr r=>kG (zpm (⟨op,at_,a,b⟩:Access)) 4 r rfl h1 ta38 rfl rfl fun r=>za0 (.func (.func 275) #[] #[zp b1,zp b2]) r (fun R=>zae r rfl) rfl fun fr r=>?_))
  have hF1:∀ b,(fun b=>F b∨b=b1∨b=b2) b→b<w3.heap.size:=by rintro b (h | h | h); exact ai (hF b h) hB.size; omega; omega
  refine kC r (zf5 (F:=fun b=>F b∨b=b1∨b=b2) (n:=n) hF1 ⟨op,at_,a,b⟩ (a1:=fun x=>(k x).bind g) (show FnT ar zpk u64 n (fun b=>F b∨b=b1∨b=b2) w3 (kf 275 [] [zp b1,zp b2]) (fun x=>(k x).bind g) from
   ⟨275,[],[zp b1,zp b2],ztq,rfl,fun m hm x w' hs hz=>zgP (ih m hm) (fun b hb=>ai (hF1 b hb) hz) (.inr (.inl rfl)) (hs.at_ (.inr (.inl rfl)) h1) (.inr (.inr rfl)) (hs.at_ (.inr (.inr rfl)) h2)
    (hk.mono kw (fun b h=>.inl h) ((Same.below hB hF).trans (hs.sub (fun b h=>.inl h))) (Nat.le_trans hB.size hz)) (hf.mono kw (fun b h=>.inl h) ((Same.below hB hF).trans (hs.sub (fun b h=>.inl h))) (Nat.le_trans hB.size hz)) x⟩)) rfl zr4 rfl ?_
  rintro _ w4 ⟨v,rfl,hb,hr⟩;refine ⟨_,rfl,fun fr r=>?_⟩
  have z4:=hb.size;have h3:=keep hb h3;have hB:=hB.trans (hb.mono hB.size);refine kP r hr.shape rfl rfl h3 zpY rfl rfl fun w5 u5 r=>aj ?_;have z5:=u5.size
  have h3:=u5.at_;have hB:=u5.below hB kw
  refine ac ?_;have hs:=hr.shape.cells;refine za5 r rfl rfl h3 (k:=9) hs.1 zpZ ?_;rw [←hs.2.2];exact zpg.fin hB hr u5 yaf yat kw kw kw
theorem zck (hF:kH F w0) {t:T (Int)} {pv fv:Value} {g:Int→T (Grant)} (hp:Rep ar zpd n t F w0 pv) (hf:FnT ar zpk i64 (n+1) F w0 fv g) :
  Calls ar 181 #[pv,fv] w0 (zpg ar zpk n (t.bind g) F w0):=zh1 n hF hp (hf.mono kw (fun b h=>h) (Same.refl _ _) (Nat.le_refl _)) (.inr hf)
def zeb (n:Nat):Prop:=∀ {F:Nat→Prop} {w0:World},(∀ b,F b→b<w0.heap.size)→∀ {t:T (Int)} {pv fv:Value} {g:Int→T (Int)},Rep ar zpd n t F w0 pv→FnT ar zpd i64 n F w0 fv g→
  (t.zps=false∨FnT ar zpd i64 (n+1) F w0 fv g)→Calls ar 223 #[pv,fv] w0 (zpg ar zpd n (t.bind g) F w0)
theorem zhU {n:Nat} (ih:zeb n) {F:Nat→Prop} {w0:World} (hF:∀ b,F b→b<w0.heap.size) {op at_ a b:Int} {nf:FuncId} {n1 n2:List Value} {k:Int→T (Int)} {ff:FuncId} {f1 f2:List Value} {g:Int→T (Int)}
    {b1 b2:Nat} (F1:F b1) (h1:w0.heap[b1]?=some (.cells (zp9 false zpd.zero op at_ a b (kf nf n1 n2)) 119 (0,0))) (F2:F b2) (h2:w0.heap[b2]?=some (.cells #[kf ff f1 f2] 261 (0,0)))
    (hk:FnT ar zpd u64 (n+1) F w0 (kf nf n1 n2) k) (hg:FnT ar zpd i64 (n+1) F w0 (kf ff f1 f2) g) (x:Int) :
    Calls ar 297 #[.int .u64 x,zp b1,zp b2] w0 (zpg ar zpd n ((k x).bind g) F w0):=by
 refine kN Tryz.func297 rfl 11 rfl rfl fun fr r hB=>?_;refine aa (af ?_)
 refine za7 (.cells (kq zpd) 119 (0,0)) r (fun R=>za6 zpI) rfl fun fr b3 w1 q1 r=>wn ?_;have h1:=keep q1.below h1
 have h2:=keep q1.below h2;have e3:=q1.eq;have z1:=q1.size;have h3:=q1.at_;have hB:=hB.trans (q1.below.mono hB.size);have zB:=hB.size;refine aa ?_;refine zaz 5 [.val (.pointer (some ⟨b1,6,none⟩)),.val (kf nf n1 n2),.val (U x),.pred (RepAt ar zpd n (k x) F w0.heap.size b3) RepAt.stable,.val (kf ff f1 f2)] mixed r kz (zaF trivial (zaF trivial (zaF trivial (zaF trivial (zaF trivial zas))))) ?_ ?_
 ·
  refine ec r (fun _ u _ b d s=>za3 s (b:=b1) (o:=0) rfl zkV bz) ?_;refine zbl r rfl (fun fr1 u w' hb' hd r'=>?_) ?_
  ·
   obtain ⟨d0,_⟩:=hd;exact za4 r' (v:=kf nf n1 n2) d0 (keep hb' h1) zqE rfl bz
  refine ec r (fun _ u _ b d s=>zap s rfl bz) ?_;refine zbl r rfl (fun fr1 u w' hb' hd r'=>?_) ?_
  ·
   obtain ⟨d0,d1,_⟩:=hd;have zb:=hb'.size;have zb:w1.heap.size≤w'.heap.size:=zb;have hB':Below w0.heap.size w0 w':=hB.trans (Below.mono (w:=w1) ⟨hb'.os,hb'.tape,hb'.output,hb'.size,hb'.block⟩ hB.size);have d0:u 1=kf nf n1 n2:=d0;have d1:u 2=.int .u64 x:=d1;refine zc6 r' (fs:=n1) (cs:=n2) d0 d1 hk.at_.1 ((hk.at_.2 n (Nat.lt_succ_self n) x w' (Same.below hB' hF) hB'.size).mono ?_);rintro _ w2 ⟨v,rfl,hb2,hr2⟩;refine ⟨v,rfl,hb2,RepAt.zlr (fun b h=>ai (hF b h) hB'.size) kw hB'.size hb2 (Rep.mono ?_ (Same.refl _ _) (Nat.le_refl _) n _ _ hr2)⟩
   rintro b (h | h)
   · exact .inl (.inl h)
   · exact .inr h
  refine ec r (fun _ u _ b d s=>za4 s rfl (keep b h2) zr9 rfl bz) ?_;exact zaN
 intro fr u w2 hb hΦ _ r;obtain ⟨_,hr3,_,hr⟩:RepAt ar zpd n (k x) F w0.heap.size b3 (u 3) w2:=hΦ 3 ke;have r:=r.congr (sc (hΦ 4 ke) rfl);have z2:=hb.size;have h1:=keep hb h1;have h2:=keep hb h2;have h3:=keep hb h3;have hB2:=hB.trans (hb.mono hB.size);have zB2:=hB2.size;have hF1:∀ b,(kW F w0 w2 b3) b→b<w2.heap.size:=by rintro b (h | h); exact ai (hF b h) hB2.size; exact h.2.1
 refine kC r (ih (F:=fun b=>F b∨(w0.heap.size≤b∧b<w2.heap.size∧b≠b3)) hF1 hr (hg.mono kw (fun b h=>.inl h) (Same.below hB2 hF) hB2.size)
  (.inr (hg.mono (Nat.le_refl _) (fun b h=>.inl h) (Same.below hB2 hF) hB2.size))) rfl zqz rfl ?_
 rintro _ w3 ⟨v2,rfl,hb2,hr2⟩;refine ⟨_,rfl,fun fr r=>?_⟩
 have z3:=hb2.size;have h3:=keep hb2 h3;have hB3:=hB2.trans (hb2.mono hB2.size);refine kP r hr2.shape rfl rfl h3 zpD rfl rfl fun w4 u4 r=>wn ?_;have z4:=u4.size
 have h3:=u4.at_;have hB4:=u4.below hB3 kw
 refine ac ?_;have hs:=hr2.shape.cells;refine za5 r rfl rfl h3 (k:=7) hs.1 zpE ?_;rw [←hs.2.2];exact zpg.fin hB4 hr2 u4 yac yaa kw kw kw
theorem zf1 (n:Nat):zeb n:=by
 induction n using Nat.strongRecOn with
 | _ n ih=>
 intro F w0 hF t pv fv g hp hf hd;obtain ⟨ff,f1,f2,hcf,rfl,hff⟩:=id hf;cases t with
 | cut=>unfold Rep at hp; exact hp.elim
 | done x0=>
  have hf:=hd.resolve_left yay
  unfold Rep at hp
  subst hp;refine enter (l:=[.agg (zp9 true (zpd.cells x0) 0 0 0 0 .nilFunc),kf ff f1 f2]) Tryz.func223 rfl 15 rfl rfl fun fr r=>?_;have hB:=Below.refl w0.heap.size w0
  refine aa (af ?_);refine kX 119 (.agg (zp9 true (zpd.cells x0) 0 0 0 0 .nilFunc)) r rfl rfl fun b1 w1 q1 r=>?_;refine kX 261 (kf ff f1 f2) r rfl rfl fun b2 w2 q2 r=>?_
  refine za7 (.cells (kq zpd) 119 (0,0)) r (fun R=>za6 zpI) rfl fun fr b3 w3 q3 r=>aj ?_;have h1:=keep q3.below (keep q2.below q1.at_)
  have h2:=keep q3.below q2.at_;have h3:=q3.at_;have e1:=q1.eq; have e2:=q2.eq; have e3:=q3.eq; have z1:=q1.size; have z2:=q2.size; have z3:=q3.size;have hB:=((hB.trans q1.below).trans (q2.below.mono kw)).trans (q3.below.mono kw)
  have zB:=hB.size;refine aa (aa (af (za0 (zp b1) r (fun R=>za3 r (o:=0) rfl zgS) rfl fun fr r=>?_)));refine za0 (.bool true) r (fun R=>za4 r (v:=.bool true) rfl h1 to4 rfl) rfl fun fr r=>aj ?_
  refine ae (t:=true) (r.ev rfl) (fun _=>?_) (fun h=>by cases h)
  refine aa (af (za0 (kf ff f1 f2) r (fun R=>za4 r (v:=kf ff f1 f2) rfl h2 zr9 rfl) rfl fun fr r=>za0 (.pointer (some ⟨b1,1,none⟩)) r (fun R=>za3 r (o:=0) rfl zl6) rfl fun fr r=>za0 (.int .i64 x0) r (fun R=>za4 r (v:=(.int .i64 x0)) rfl h1 to3 rfl) rfl fun fr r=>?_));refine zbo r (hf.at_.2 n (Nat.lt_succ_self n) x0 w3 (Same.below hB hF) hB.size) (fun R hc=>zdR r rfl rfl hf.at_.1 hc) rfl ?_
  rintro _ w4 ⟨v,rfl,hb,hr⟩;refine ⟨_,rfl,fun fr r=>?_⟩
  have z4:=hb.size;have h3:=keep hb h3;have hB:=hB.trans (hb.mono hB.size);refine kP r hr.shape rfl rfl h3 zpD rfl rfl fun w5 u5 r=>aj ?_;have z5:=u5.size
  have h3:=u5.at_;have hB:=u5.below hB kw
  refine ac ?_;have hs:=hr.shape.cells;refine za5 r rfl rfl h3 (k:=7) hs.1 zpE ?_;rw [←hs.2.2];exact zpg.fin hB hr u5 (fun b hb=>.inl hb) (fun h=>by have:=hF _ h; omega) kw kw kw
 | act op at_ a b k=>
  obtain ⟨nf,n1,n2,hcn,rfl,hk⟩:∃ (nf:FuncId) (n1 n2:List Value),zp7 ar nf=true∧pv=.agg (zp9 false zpd.zero op at_ a b (kf nf n1 n2))∧FnT ar zpd u64 n F w0 (kf nf n1 n2) k:=by
   exact Rep.zcH hp
  refine enter (l:=[.agg (zp9 false zpd.zero op at_ a b (kf nf n1 n2)),kf ff f1 f2]) Tryz.func223 rfl 15 rfl rfl fun fr r=>?_;have hB:=Below.refl w0.heap.size w0
  refine aa (af ?_);refine kX 119 (.agg (zp9 false zpd.zero op at_ a b (kf nf n1 n2))) r rfl rfl fun b1 w1 q1 r=>?_;refine kX 261 (kf ff f1 f2) r rfl rfl fun b2 w2 q2 r=>?_
  refine za7 (.cells (kq zpd) 119 (0,0)) r (fun R=>za6 zpI) rfl fun fr b3 w3 q3 r=>aj ?_;have h1:=keep q3.below (keep q2.below q1.at_)
  have h2:=keep q3.below q2.at_;have h3:=q3.at_;have e1:=q1.eq; have e2:=q2.eq; have e3:=q3.eq; have z1:=q1.size; have z2:=q2.size; have z3:=q3.size;have hB:=((hB.trans q1.below).trans (q2.below.mono kw)).trans (q3.below.mono kw)
  have zB:=hB.size;refine aa (aa (af (za0 (zp b1) r (fun R=>za3 r (o:=0) rfl zgS) rfl fun fr r=>?_)));refine za0 (.bool false) r (fun R=>za4 r (v:=.bool false) rfl h1 to4 rfl) rfl fun fr r=>aj ?_
  refine ae (t:=false) (r.ev rfl) (fun h=>by cases h) (fun _=>ag ?_);refine aa (af (za0 (.pointer (some ⟨b1,2,none⟩)) r (fun R=>za3 r (o:=0) rfl zkA) rfl fun fr r=>kG (zpm (⟨op,at_,a,b⟩:Access)) 4 r rfl h1 ta38 rfl rfl fun r=>za0 (.func (.func 297) #[] #[zp b1,zp b2]) r (fun R=>zae r rfl) rfl fun fr r=>?_))
  have hF1:∀ b,(fun b=>F b∨b=b1∨b=b2) b→b<w3.heap.size:=by rintro b (h | h | h); exact ai (hF b h) hB.size; omega; omega
  refine kC r (ze6 (F:=fun b=>F b∨b=b1∨b=b2) (n:=n) hF1 ⟨op,at_,a,b⟩ (a1:=fun x=>(k x).bind g) (show FnT ar zpd u64 n (fun b=>F b∨b=b1∨b=b2) w3 (kf 297 [] [zp b1,zp b2]) (fun x=>(k x).bind g) from
   ⟨297,[],[zp b1,zp b2],zsJ,rfl,fun m hm x w' hs hz=>zhU (ih m hm) (fun b hb=>ai (hF1 b hb) hz) (.inr (.inl rfl)) (hs.at_ (.inr (.inl rfl)) h1) (.inr (.inr rfl)) (hs.at_ (.inr (.inr rfl)) h2)
    (hk.mono kw (fun b h=>.inl h) ((Same.below hB hF).trans (hs.sub (fun b h=>.inl h))) (Nat.le_trans hB.size hz)) (hf.mono kw (fun b h=>.inl h) ((Same.below hB hF).trans (hs.sub (fun b h=>.inl h))) (Nat.le_trans hB.size hz)) x⟩)) rfl zqx rfl ?_
  rintro _ w4 ⟨v,rfl,hb,hr⟩;refine ⟨_,rfl,fun fr r=>?_⟩
  have z4:=hb.size;have h3:=keep hb h3;have hB:=hB.trans (hb.mono hB.size);refine kP r hr.shape rfl rfl h3 zpD rfl rfl fun w5 u5 r=>aj ?_;have z5:=u5.size
  have h3:=u5.at_;have hB:=u5.below hB kw
  refine ac ?_;have hs:=hr.shape.cells;refine za5 r rfl rfl h3 (k:=7) hs.1 zpE ?_;rw [←hs.2.2];exact zpg.fin hB hr u5 yaf yat kw kw kw
theorem zgl (hF:kH F w0) {t:T (Int)} {pv fv:Value} {g:Int→T (Int)} (hp:Rep ar zpd n t F w0 pv) (hf:FnT ar zpd i64 n F w0 fv g) (hd:t.zps=false) :
  Calls ar 223 #[pv,fv] w0 (zpg ar zpd n (t.bind g) F w0):=zf1 n hF hp hf (.inl hd)
theorem zcG (hF:kH F w0) {t:T (Int)} {pv fv:Value} {g:Int→T (Int)} (hp:Rep ar zpd n t F w0 pv) (hf:FnT ar zpd i64 (n+1) F w0 fv g) :
  Calls ar 223 #[pv,fv] w0 (zpg ar zpd n (t.bind g) F w0):=zf1 n hF hp (hf.mono kw (fun b h=>h) (Same.refl _ _) (Nat.le_refl _)) (.inr hf)
end
end Go.Proofs.YtbbipmelhmgmfaaGreat
