/- Ours. -/
import Derived.Test.YtbbipmelhmgmfaaGreatLzM5
import Derived.Test.YtbbipmelhmgmfaaGreatLzMems
set_option linter.all false
set_option maxRecDepth 100000
set_option maxHeartbeats 20000000
namespace Go.Proofs.YtbbipmelhmgmfaaGreat
open Go.RowKit
section
variable {n : Nat} {F : Nat → Prop} {j : Nat} {w0 : World}
theorem wV:af y6 130:=kz
theorem rO:af y6 140:=kz
theorem j3:af y6 177:=kz
theorem oR:af y6 181:=kz
theorem Gl:af y6 215:=kz
theorem Gi:af y6 220:=kz
theorem mf:af y6 223:=kz
theorem rU:af y6 228:=kz
theorem rB:af y6 274:=kz
theorem Eu:af y6 275:=kz
theorem mg:af y6 283:=kz
theorem wS:af y6 293:=kz
theorem Fz:af y6 297:=kz
theorem Fx:af y6 301:=kz
theorem xe:af y6 348:=kz
theorem xN:af y6 352:=kz
theorem wN:af y6 358:=kz
theorem xK:af y6 360:=kz
theorem FH:af y6 379:=kz
theorem Gf:af y6 385:=kz
theorem Er:af y6 386:=kz
theorem vG:ba y6 116 0 0:=kz
theorem Dw:ba y6 116 1 1:=kz
theorem Dc:ba y6 116 2 4:=kz
theorem Dy:ba y6 116 3 8:=kz
theorem gW:ba y6 119 0 0:=kz
theorem om:ba y6 119 1 1:=kz
theorem ou:ba y6 119 2 2:=kz
theorem ow:ba y6 119 3 6:=kz
theorem eU:ba y6 133 0 0:=kz
theorem lQ:ba y6 133 2 1:=kz
theorem lR:ba y6 133 3 5:=kz
theorem vN:ba y6 271 0 0:=kz
theorem D8:ba y6 271 1 1:=kz
theorem D7:ba y6 271 2 2:=kz
theorem Di:ba y6 271 3 6:=kz
theorem vL:ba y6 318 0 0:=kz
theorem D2:ba y6 318 1 1:=kz
theorem D6:ba y6 318 2 2:=kz
theorem DJ:ba y6 318 3 6:=kz
theorem rj:ba y6 41 0 0:=kz
theorem DX:ba y6 41 1 1:=kz
theorem DL:ba y6 41 2 3:=kz
theorem DK:ba y6 41 3 7:=kz
theorem m4:fieldZ y6 133 1 1:=kz
theorem xA:tyA y6 113 3:=kz
theorem dL:tyA y6 116 9:=kz
theorem br:tyA y6 119 7:=kz
theorem iY:tyA y6 128 0:=kz
theorem cT:tyA y6 133 6:=kz
theorem eH:tyA y6 271 7:=kz
theorem ib:tyA y6 318 7:=kz
theorem ta36:tyA y6 36 2:=kz
theorem ta38:tyA y6 38 4:=kz
theorem ta41:tyA y6 41 8:=kz
theorem Em:tyO y6 114:=kz
theorem oN:tyO y6 117:=kz
theorem m9:tyO y6 131:=kz
theorem xq:tyO y6 207:=kz
theorem xh:tyO y6 213:=kz
theorem rA:tyO y6 233:=kz
theorem rP:tyO y6 261:=kz
theorem wL:tyO y6 265:=kz
theorem Fl:tyO y6 269:=kz
theorem rJ:tyO y6 290:=kz
theorem xm:tyO y6 296:=kz
theorem Es:tyO y6 316:=kz
theorem xE:tyO y6 324:=kz
theorem to39:tyO y6 39:=kz
theorem to4:tyO y6 4:=kz
theorem dM:sized y6 116 9:=kz
theorem bu:sized y6 119 7:=kz
theorem cX:sized y6 133 6:=kz
theorem eI:sized y6 271 7:=kz
theorem ic:sized y6 318 7:=kz
theorem ts41:sized y6 41 8:=kz
theorem dU:zeroOf y6 116=some (.agg (kq bw)):=kz
theorem bK:zeroOf y6 119=some (.agg (kq aj)):=kz
theorem dA:zeroOf y6 133=some (.agg (kq aD)):=kz
theorem eY:zeroOf y6 271=some (.agg (kq bH)):=kz
theorem jT:zeroOf y6 318=some (.agg (kq ct)):=kz
theorem tz41:zeroOf y6 41=some (.agg (kq aA)):=kz
def D.ub (a0:Access) (a1:(Int→T Unit)):T Unit:=(T.act a0.op a0.at_ a0.a a0.b a1)
theorem tC (hF:kH F w0)
    (a0:Access) {a1f:FuncId} {GU GV:List Value} {a1:(Int→T Unit)} (a1n:FnT y6 aD u64 (n) F w0 (kf a1f GU GV) a1) :
    Calls y6 293 #[u7 (bk a0),kf a1f GU GV] w0 (aG y6 aD n (D.ub a0 a1) F w0):=by
 refine kN Tryz.func293 rfl 8 rfl rfl fun fr r hB=>?_;refine wsr ?_
 refine kX 38 (u7 (bk a0)) r rfl rfl fun b1 w2 n3 r=>?_;obtain ⟨E1,Z2,H1,hB,zB⟩:=n3.all hB
 refine ah (.cells (kq aD) 133 (0,0)) r (fun R=>ag dA) rfl fun fr b4 w5 n6 r=>?_;have H1:=keep n6.below H1
 obtain ⟨E4,Z5,H4,hB,zB⟩:=n6.all hB;refine wn (wsr (kG (bk a0) 4 r rfl H1 ta38 rfl rfl fun r=>kM (kf a1f GU GV) r rfl rfl fun r=>kU (.agg (aC false aD.zero a0.op a0.at_ a0.a a0.b (kf a1f GU GV))) r kz rfl fun r=>?_));refine aJ (.cells (aC false aD.zero a0.op a0.at_ a0.a a0.b (kf a1f GU GV)) 133 (0,0)) r (fun R=>bb r (o:=0) (v:=(.agg (aC false aD.zero a0.op a0.at_ a0.a a0.b (kf a1f GU GV)))) rfl rfl H4 cX r9 rfl rfl) rfl fun fr w7 u8 r=>?_
 have Z7:=u8.size;have H1:=u8.keep H1 kw
 have H4:=u8.at_;obtain ⟨hB,zB⟩:=u8.on hB kw
 refine wn (d9 ?_);refine ak r rfl rfl H4 (k:=6) rfl cT ?_;exact ⟨_,rfl,hB,Rep.hU (a1n.mono (Nat.le_refl _) (fun b hb=>.inl hb) (Same.below hB hF) hB.size)⟩
def D.nn :T Unit:=(T.done ())
theorem sU (hF:kH F w0)
     :
    Calls y6 292 #[.agg #[]] w0 (aG y6 aD n D.nn F w0):=by
 refine kN Tryz.func292 rfl 5 rfl rfl fun fr r hB=>?_;refine wsr ?_
 refine kX 128 (.agg #[]) r rfl rfl fun b1 w2 n3 r=>?_;obtain ⟨E1,Z2,H1,hB,zB⟩:=n3.all hB
 refine ah (.cells (kq aD) 133 (0,0)) r (fun R=>ag dA) rfl fun fr b4 w5 n6 r=>?_;have H1:=keep n6.below H1
 obtain ⟨E4,Z5,H4,hB,zB⟩:=n6.all hB;refine wn (wsr (kG [] 0 r rfl H1 iY rfl rfl fun r=>kU (.agg (aC true (aD.cells ()) 0 0 0 0 .nilFunc)) r kz rfl fun r=>?_));refine aJ (.cells (aC true (aD.cells ()) 0 0 0 0 .nilFunc) 133 (0,0)) r (fun R=>bb r (o:=0) (v:=(.agg (aC true (aD.cells ()) 0 0 0 0 .nilFunc))) rfl rfl H4 cX r9 rfl rfl) rfl fun fr w7 u8 r=>?_
 have Z7:=u8.size;have H1:=u8.keep H1 kw
 have H4:=u8.at_;obtain ⟨hB,zB⟩:=u8.on hB kw
 refine wn (d9 ?_);refine ak r rfl rfl H4 (k:=6) rfl cT ?_;exact ⟨_,rfl,hB,Rep.gV⟩
def D.qa (a0:Res):T Res:=(T.done a0)
def D.nI (a0:Access) (a1:(Int→T Res)):T Res:=(T.act a0.op a0.at_ a0.a a0.b a1)
def D.nJ (a0:Access) (a1:(Int→T Int)):T Int:=(T.act a0.op a0.at_ a0.a a0.b a1)
theorem l8 (hF:kH F w0)
    (a0:Access) {a1f:FuncId} {GU GV:List Value} {a1:(Int→T Int)} (a1n:FnT y6 aj u64 (n) F w0 (kf a1f GU GV) a1) :
    Calls y6 283 #[u7 (bk a0),kf a1f GU GV] w0 (aG y6 aj n (D.nJ a0 a1) F w0):=by
 refine kN Tryz.func283 rfl 8 rfl rfl fun fr r hB=>?_;refine wsr ?_
 refine kX 38 (u7 (bk a0)) r rfl rfl fun b1 w2 n3 r=>?_;obtain ⟨E1,Z2,H1,hB,zB⟩:=n3.all hB
 refine ah (.cells (kq aj) 119 (0,0)) r (fun R=>ag bK) rfl fun fr b4 w5 n6 r=>?_;have H1:=keep n6.below H1
 obtain ⟨E4,Z5,H4,hB,zB⟩:=n6.all hB;refine wn (wsr (kG (bk a0) 4 r rfl H1 ta38 rfl rfl fun r=>kM (kf a1f GU GV) r rfl rfl fun r=>kU (.agg (aC false aj.zero a0.op a0.at_ a0.a a0.b (kf a1f GU GV))) r kz rfl fun r=>?_));refine aJ (.cells (aC false aj.zero a0.op a0.at_ a0.a a0.b (kf a1f GU GV)) 119 (0,0)) r (fun R=>bb r (o:=0) (v:=(.agg (aC false aj.zero a0.op a0.at_ a0.a a0.b (kf a1f GU GV)))) rfl rfl H4 bu r9 rfl rfl) rfl fun fr w7 u8 r=>?_
 have Z7:=u8.size;have H1:=u8.keep H1 kw
 have H4:=u8.at_;obtain ⟨hB,zB⟩:=u8.on hB kw
 refine wn (d9 ?_);refine ak r rfl rfl H4 (k:=7) rfl br ?_;exact ⟨_,rfl,hB,Rep.hU (a1n.mono (Nat.le_refl _) (fun b hb=>.inl hb) (Same.below hB hF) hB.size)⟩
def D.cZ (a0:Int):T Int:=(T.done a0)
theorem eQ (hF:kH F w0)
    (a0:Int) :
    Calls y6 222 #[.int .i64 a0] w0 (aG y6 aj n (D.cZ a0) F w0):=by
 refine kN Tryz.func222 rfl 5 rfl rfl fun fr r hB=>?_;refine wsr ?_
 refine ah (.cells (kq aj) 119 (0,0)) r (fun R=>ag bK) rfl fun fr b1 w2 n3 r=>?_;obtain ⟨E1,Z2,H1,hB,zB⟩:=n3.all hB
 refine wn (wsr (kM (I a0) r rfl rfl fun r=>kU (.agg (aC true (aj.cells a0) 0 0 0 0 .nilFunc)) r kz rfl fun r=>?_));refine aJ (.cells (aC true (aj.cells a0) 0 0 0 0 .nilFunc) 119 (0,0)) r (fun R=>bb r (o:=0) (v:=(.agg (aC true (aj.cells a0) 0 0 0 0 .nilFunc))) rfl rfl H1 bu r9 rfl rfl) rfl fun fr w4 u5 r=>?_
 have Z4:=u5.size;have H1:=u5.at_;obtain ⟨hB,zB⟩:=u5.on hB kw
 refine wn (d9 ?_);refine ak r rfl rfl H1 (k:=7) rfl br ?_;exact ⟨_,rfl,hB,Rep.gV⟩
def D.mY (a0:Grant):T Grant:=(T.done a0)
theorem sS (hF:kH F w0)
    (a0:Grant) :
    Calls y6 179 #[u7 (grantC a0)] w0 (aG y6 bw n (D.mY a0) F w0):=by
 refine kN Tryz.func179 rfl 5 rfl rfl fun fr r hB=>?_;refine wsr ?_
 refine kX 113 (u7 (grantC a0)) r rfl rfl fun b1 w2 n3 r=>?_;obtain ⟨E1,Z2,H1,hB,zB⟩:=n3.all hB
 refine ah (.cells (kq bw) 116 (0,0)) r (fun R=>ag dU) rfl fun fr b4 w5 n6 r=>?_;have H1:=keep n6.below H1
 obtain ⟨E4,Z5,H4,hB,zB⟩:=n6.all hB;refine wn (wsr (kG (grantC a0) 3 r rfl H1 xA rfl rfl fun r=>kU (.agg (aC true (bw.cells a0) 0 0 0 0 .nilFunc)) r kz rfl fun r=>?_));refine aJ (.cells (aC true (bw.cells a0) 0 0 0 0 .nilFunc) 116 (0,0)) r (fun R=>bb r (o:=0) (v:=(.agg (aC true (bw.cells a0) 0 0 0 0 .nilFunc))) rfl rfl H4 dM r9 rfl rfl) rfl fun fr w7 u8 r=>?_
 have Z7:=u8.size;have H1:=u8.keep H1 kw
 have H4:=u8.at_;obtain ⟨hB,zB⟩:=u8.on hB kw
 refine wn (d9 ?_);refine ak r rfl rfl H4 (k:=9) rfl dL ?_;exact ⟨_,rfl,hB,Rep.gV⟩
def D.pX (a0:Access) (a1:(Int→T Grant)):T Grant:=(T.act a0.op a0.at_ a0.a a0.b a1)
theorem pP (hF:kH F w0)
    (a0:Access) {a1f:FuncId} {GU GV:List Value} {a1:(Int→T Grant)} (a1n:FnT y6 bw u64 (n) F w0 (kf a1f GU GV) a1) :
    Calls y6 274 #[u7 (bk a0),kf a1f GU GV] w0 (aG y6 bw n (D.pX a0 a1) F w0):=by
 refine kN Tryz.func274 rfl 8 rfl rfl fun fr r hB=>?_;refine wsr ?_
 refine kX 38 (u7 (bk a0)) r rfl rfl fun b1 w2 n3 r=>?_;obtain ⟨E1,Z2,H1,hB,zB⟩:=n3.all hB
 refine ah (.cells (kq bw) 116 (0,0)) r (fun R=>ag dU) rfl fun fr b4 w5 n6 r=>?_;have H1:=keep n6.below H1
 obtain ⟨E4,Z5,H4,hB,zB⟩:=n6.all hB;refine wn (wsr (kG (bk a0) 4 r rfl H1 ta38 rfl rfl fun r=>kM (kf a1f GU GV) r rfl rfl fun r=>kU (.agg (aC false bw.zero a0.op a0.at_ a0.a a0.b (kf a1f GU GV))) r kz rfl fun r=>?_));refine aJ (.cells (aC false bw.zero a0.op a0.at_ a0.a a0.b (kf a1f GU GV)) 116 (0,0)) r (fun R=>bb r (o:=0) (v:=(.agg (aC false bw.zero a0.op a0.at_ a0.a a0.b (kf a1f GU GV)))) rfl rfl H4 dM r9 rfl rfl) rfl fun fr w7 u8 r=>?_
 have Z7:=u8.size;have H1:=u8.keep H1 kw
 have H4:=u8.at_;obtain ⟨hB,zB⟩:=u8.on hB kw
 refine wn (d9 ?_);refine ak r rfl rfl H4 (k:=9) rfl dL ?_;exact ⟨_,rfl,hB,Rep.hU (a1n.mono (Nat.le_refl _) (fun b hb=>.inl hb) (Same.below hB hF) hB.size)⟩
def D.l4 (a0:Bool):T Bool:=(T.done a0)
theorem tj (hF:kH F w0)
    (a0:Bool) :
    Calls y6 395 #[.bool a0] w0 (aG y6 ct n (D.l4 a0) F w0):=by
 refine kN Tryz.func395 rfl 5 rfl rfl fun fr r hB=>?_;refine wsr ?_
 refine ah (.cells (kq ct) 318 (0,0)) r (fun R=>ag jT) rfl fun fr b1 w2 n3 r=>?_;obtain ⟨E1,Z2,H1,hB,zB⟩:=n3.all hB
 refine wn (wsr (kM (.bool a0) r rfl rfl fun r=>kU (.agg (aC true (ct.cells a0) 0 0 0 0 .nilFunc)) r kz rfl fun r=>?_));refine aJ (.cells (aC true (ct.cells a0) 0 0 0 0 .nilFunc) 318 (0,0)) r (fun R=>bb r (o:=0) (v:=(.agg (aC true (ct.cells a0) 0 0 0 0 .nilFunc))) rfl rfl H1 ic r9 rfl rfl) rfl fun fr w4 u5 r=>?_
 have Z4:=u5.size;have H1:=u5.at_;obtain ⟨hB,zB⟩:=u5.on hB kw
 refine wn (d9 ?_);refine ak r rfl rfl H1 (k:=7) rfl ib ?_;exact ⟨_,rfl,hB,Rep.gV⟩
def D.tW (a0:Access) (a1:(Int→T Bool)):T Bool:=(T.act a0.op a0.at_ a0.a a0.b a1)
theorem AX (hF:kH F w0)
    (a0:Access) {a1f:FuncId} {GU GV:List Value} {a1:(Int→T Bool)} (a1n:FnT y6 ct u64 (n) F w0 (kf a1f GU GV) a1) :
    Calls y6 400 #[u7 (bk a0),kf a1f GU GV] w0 (aG y6 ct n (D.tW a0 a1) F w0):=by
 refine kN Tryz.func400 rfl 8 rfl rfl fun fr r hB=>?_;refine wsr ?_
 refine kX 38 (u7 (bk a0)) r rfl rfl fun b1 w2 n3 r=>?_;obtain ⟨E1,Z2,H1,hB,zB⟩:=n3.all hB
 refine ah (.cells (kq ct) 318 (0,0)) r (fun R=>ag jT) rfl fun fr b4 w5 n6 r=>?_;have H1:=keep n6.below H1
 obtain ⟨E4,Z5,H4,hB,zB⟩:=n6.all hB;refine wn (wsr (kG (bk a0) 4 r rfl H1 ta38 rfl rfl fun r=>kM (kf a1f GU GV) r rfl rfl fun r=>kU (.agg (aC false ct.zero a0.op a0.at_ a0.a a0.b (kf a1f GU GV))) r kz rfl fun r=>?_));refine aJ (.cells (aC false ct.zero a0.op a0.at_ a0.a a0.b (kf a1f GU GV)) 318 (0,0)) r (fun R=>bb r (o:=0) (v:=(.agg (aC false ct.zero a0.op a0.at_ a0.a a0.b (kf a1f GU GV)))) rfl rfl H4 ic r9 rfl rfl) rfl fun fr w7 u8 r=>?_
 have Z7:=u8.size;have H1:=u8.keep H1 kw
 have H4:=u8.at_;obtain ⟨hB,zB⟩:=u8.on hB kw
 refine wn (d9 ?_);refine ak r rfl rfl H4 (k:=7) rfl ib ?_;exact ⟨_,rfl,hB,Rep.hU (a1n.mono (Nat.le_refl _) (fun b hb=>.inl hb) (Same.below hB hF) hB.size)⟩
def D.tI (a0:Access) (a1:(Int→T Int)):T Int:=(T.act a0.op a0.at_ a0.a a0.b a1)
theorem sW (hF:kH F w0)
    (a0:Access) {a1f:FuncId} {GU GV:List Value} {a1:(Int→T Int)} (a1n:FnT y6 bH u64 (n) F w0 (kf a1f GU GV) a1) :
    Calls y6 358 #[u7 (bk a0),kf a1f GU GV] w0 (aG y6 bH n (D.tI a0 a1) F w0):=by
 refine kN Tryz.func358 rfl 8 rfl rfl fun fr r hB=>?_;refine wsr ?_
 refine kX 38 (u7 (bk a0)) r rfl rfl fun b1 w2 n3 r=>?_;obtain ⟨E1,Z2,H1,hB,zB⟩:=n3.all hB
 refine ah (.cells (kq bH) 271 (0,0)) r (fun R=>ag eY) rfl fun fr b4 w5 n6 r=>?_;have H1:=keep n6.below H1
 obtain ⟨E4,Z5,H4,hB,zB⟩:=n6.all hB;refine wn (wsr (kG (bk a0) 4 r rfl H1 ta38 rfl rfl fun r=>kM (kf a1f GU GV) r rfl rfl fun r=>kU (.agg (aC false bH.zero a0.op a0.at_ a0.a a0.b (kf a1f GU GV))) r kz rfl fun r=>?_));refine aJ (.cells (aC false bH.zero a0.op a0.at_ a0.a a0.b (kf a1f GU GV)) 271 (0,0)) r (fun R=>bb r (o:=0) (v:=(.agg (aC false bH.zero a0.op a0.at_ a0.a a0.b (kf a1f GU GV)))) rfl rfl H4 eI r9 rfl rfl) rfl fun fr w7 u8 r=>?_
 have Z7:=u8.size;have H1:=u8.keep H1 kw
 have H4:=u8.at_;obtain ⟨hB,zB⟩:=u8.on hB kw
 refine wn (d9 ?_);refine ak r rfl rfl H4 (k:=7) rfl eH ?_;exact ⟨_,rfl,hB,Rep.hU (a1n.mono (Nat.le_refl _) (fun b hb=>.inl hb) (Same.below hB hF) hB.size)⟩
def D.ky (a0:Int):T Int:=(T.done a0)
theorem sO (hF:kH F w0)
    (a0:Int) :
    Calls y6 359 #[.int .u64 a0] w0 (aG y6 bH n (D.ky a0) F w0):=by
 refine kN Tryz.func359 rfl 5 rfl rfl fun fr r hB=>?_;refine wsr ?_
 refine ah (.cells (kq bH) 271 (0,0)) r (fun R=>ag eY) rfl fun fr b1 w2 n3 r=>?_;obtain ⟨E1,Z2,H1,hB,zB⟩:=n3.all hB
 refine wn (wsr (kM (U a0) r rfl rfl fun r=>kU (.agg (aC true (bH.cells a0) 0 0 0 0 .nilFunc)) r kz rfl fun r=>?_));refine aJ (.cells (aC true (bH.cells a0) 0 0 0 0 .nilFunc) 271 (0,0)) r (fun R=>bb r (o:=0) (v:=(.agg (aC true (bH.cells a0) 0 0 0 0 .nilFunc))) rfl rfl H1 eI r9 rfl rfl) rfl fun fr w4 u5 r=>?_
 have Z4:=u5.size;have H1:=u5.at_;obtain ⟨hB,zB⟩:=u5.on hB kw
 refine wn (d9 ?_);refine ak r rfl rfl H1 (k:=7) rfl eH ?_;exact ⟨_,rfl,hB,Rep.gV⟩
def sB (n:Nat):Prop:=∀ {F:Nat→Prop} {w0:World},(∀ b,F b→b<w0.heap.size)→∀ {t:T (Bool)} {pv fv:Value} {g:Bool→T (Int)},Rep y6 ct n t F w0 pv→FnT y6 aj aF n F w0 fv g→
  (t.bA=false∨FnT y6 aj aF (n+1) F w0 fv g)→Calls y6 348 #[pv,fv] w0 (aG y6 aj n (t.bind g) F w0)
theorem zq {n:Nat} (ih:sB n) {F:Nat→Prop} {w0:World} (hF:∀ b,F b→b<w0.heap.size) {op at_ a b:Int} {nf:FuncId} {n1 n2:List Value} {k:Int→T (Bool)} {ff:FuncId} {f1 f2:List Value} {g:Bool→T (Int)}
    {b1 b2:Nat} (F1:F b1) (h1:w0.heap[b1]?=some (.cells (aC false ct.zero op at_ a b (kf nf n1 n2)) 318 (0,0))) (F2:F b2) (h2:w0.heap[b2]?=some (.cells #[kf ff f1 f2] 290 (0,0)))
    (hk:FnT y6 ct u64 (n+1) F w0 (kf nf n1 n2) k) (hg:FnT y6 aj aF (n+1) F w0 (kf ff f1 f2) g) (x:Int) :
    Calls y6 379 #[.int .u64 x,zp b1,zp b2] w0 (aG y6 aj n ((k x).bind g) F w0):=by
 refine kN Tryz.func379 rfl 11 rfl rfl fun fr r hB=>?_;refine a9 (q5 ?_)
 refine ah (.cells (kq aj) 119 (0,0)) r (fun R=>ag bK) rfl fun fr b3 w1 q1 r=>wn ?_;have h1:=keep q1.below h1
 have h2:=keep q1.below h2;have e3:=q1.eq;have z1:=q1.size;have h3:=q1.at_;have hB:=hB.trans (q1.below.mono hB.size);have zB:=hB.size;refine a9 ?_;refine bN 5 [.val (.pointer (some ⟨b1,6,none⟩)),.val (kf nf n1 n2),.val (U x),.pred (RepAt y6 ct n (k x) F w0.heap.size b3) RepAt.stable,.val (kf ff f1 f2)] mixed r kz (cr trivial (cr trivial (cr trivial (cr trivial (cr trivial bM))))) ?_ ?_
 ·
  refine ec r (fun _ u _ b d s=>az s (b:=b1) (o:=0) rfl DJ bz) ?_;refine dq r rfl (fun fr1 u w' hb' hd r'=>?_) ?_
  ·
   obtain ⟨d0,_⟩:=hd;exact av r' (v:=kf nf n1 n2) d0 (keep hb' h1) Es rfl bz
  refine ec r (fun _ u _ b d s=>ay s rfl bz) ?_;refine dq r rfl (fun fr1 u w' hb' hd r'=>?_) ?_
  ·
   obtain ⟨d0,d1,_⟩:=hd;have zb:=hb'.size;have zb:w1.heap.size≤w'.heap.size:=zb;have hB':Below w0.heap.size w0 w':=hB.trans (Below.mono (w:=w1) ⟨hb'.os,hb'.tape,hb'.output,hb'.size,hb'.block⟩ hB.size);have d0:u 1=kf nf n1 n2:=d0;have d1:u 2=.int .u64 x:=d1;refine dI r' (fs:=n1) (cs:=n2) d0 d1 hk.at_.1 ((hk.at_.2 n (Nat.lt_succ_self n) x w' (Same.below hB' hF) hB'.size).mono ?_);rintro _ w2 ⟨v,rfl,hb2,hr2⟩;refine ⟨v,rfl,hb2,RepAt.lU (fun b h=>q8 (hF b h) hB'.size) kw hB'.size hb2 (Rep.mono ?_ (Same.refl _ _) (Nat.le_refl _) n _ _ hr2)⟩
   rintro b (h | h)
   · exact .inl (.inl h)
   · exact .inr h
  refine ec r (fun _ u _ b d s=>av s rfl (keep b h2) rJ rfl bz) ?_;exact bO
 intro fr u w2 hb hΦ _ r;obtain ⟨_,hr3,_,hr⟩:RepAt y6 ct n (k x) F w0.heap.size b3 (u 3) w2:=hΦ 3 ke;have r:=r.congr (sc (hΦ 4 ke) rfl);have z2:=hb.size;have h1:=keep hb h1;have h2:=keep hb h2;have h3:=keep hb h3;have hB2:=hB.trans (hb.mono hB.size);have zB2:=hB2.size;have hF1:∀ b,(kW F w0 w2 b3) b→b<w2.heap.size:=by rintro b (h | h); exact q8 (hF b h) hB2.size; exact h.2.1
 refine kC r (ih (F:=fun b=>F b∨(w0.heap.size≤b∧b<w2.heap.size∧b≠b3)) hF1 hr (hg.mono kw (fun b h=>.inl h) (Same.below hB2 hF) hB2.size)
  (.inr (hg.mono (Nat.le_refl _) (fun b h=>.inl h) (Same.below hB2 hF) hB2.size))) rfl xe rfl ?_
 rintro _ w3 ⟨v2,rfl,hb2,hr2⟩;refine ⟨_,rfl,fun fr r=>?_⟩
 have z3:=hb2.size;have h3:=keep hb2 h3;have hB3:=hB2.trans (hb2.mono hB2.size);refine kP r hr2.shape rfl rfl h3 bu rfl rfl fun w4 u4 r=>wn ?_;have z4:=u4.size
 have h3:=u4.at_;have hB4:=u4.below hB3 kw
 refine d9 ?_;have hs:=hr2.shape.cells;refine ak r rfl rfl h3 (k:=7) hs.1 br ?_;rw [←hs.2.2];exact aG.fin hB4 hr2 u4 yac yaa kw kw kw
theorem zo (n:Nat):sB n:=by
 induction n using Nat.strongRecOn with
 | _ n ih=>
 intro F w0 hF t pv fv g hp hf hd;obtain ⟨ff,f1,f2,hcf,rfl,hff⟩:=id hf;cases t with
 | cut=>unfold Rep at hp; exact hp.elim
 | done x0=>
  have hf:=hd.resolve_left yaB
  unfold Rep at hp
  subst hp;refine enter (l:=[.agg (aC true (ct.cells x0) 0 0 0 0 .nilFunc),kf ff f1 f2]) Tryz.func348 rfl 15 rfl rfl fun fr r=>?_;have hB:=Below.refl w0.heap.size w0
  refine a9 (q5 ?_);refine kX 318 (.agg (aC true (ct.cells x0) 0 0 0 0 .nilFunc)) r rfl rfl fun b1 w1 q1 r=>?_;refine kX 290 (kf ff f1 f2) r rfl rfl fun b2 w2 q2 r=>?_
  refine ah (.cells (kq aj) 119 (0,0)) r (fun R=>ag bK) rfl fun fr b3 w3 q3 r=>q9 ?_;have h1:=keep q3.below (keep q2.below q1.at_)
  have h2:=keep q3.below q2.at_;have h3:=q3.at_;have e1:=q1.eq; have e2:=q2.eq; have e3:=q3.eq; have z1:=q1.size; have z2:=q2.size; have z3:=q3.size;have hB:=((hB.trans q1.below).trans (q2.below.mono kw)).trans (q3.below.mono kw)
  have zB:=hB.size;refine a9 (a9 (q5 (aa (zp b1) r (fun R=>az r (o:=0) rfl vL) rfl fun fr r=>?_)));refine aa (.bool true) r (fun R=>av r (v:=.bool true) rfl h1 to4 rfl) rfl fun fr r=>q9 ?_
  refine q4 (t:=true) (r.ev rfl) (fun _=>?_) (fun h=>by cases h)
  refine a9 (q5 (aa (kf ff f1 f2) r (fun R=>av r (v:=kf ff f1 f2) rfl h2 rJ rfl) rfl fun fr r=>aa (.pointer (some ⟨b1,1,none⟩)) r (fun R=>az r (o:=0) rfl D2) rfl fun fr r=>aa (.bool x0) r (fun R=>av r (v:=(.bool x0)) rfl h1 to4 rfl) rfl fun fr r=>?_));refine cS r (hf.at_.2 n (Nat.lt_succ_self n) x0 w3 (Same.below hB hF) hB.size) (fun R hc=>ek r rfl rfl hf.at_.1 hc) rfl ?_
  rintro _ w4 ⟨v,rfl,hb,hr⟩;refine ⟨_,rfl,fun fr r=>?_⟩
  have z4:=hb.size;have h3:=keep hb h3;have hB:=hB.trans (hb.mono hB.size);refine kP r hr.shape rfl rfl h3 bu rfl rfl fun w5 u5 r=>q9 ?_;have z5:=u5.size
  have h3:=u5.at_;have hB:=u5.below hB kw
  refine d9 ?_;have hs:=hr.shape.cells;refine ak r rfl rfl h3 (k:=7) hs.1 br ?_;rw [←hs.2.2];exact aG.fin hB hr u5 (fun b hb=>.inl hb) (fun h=>by have:=hF _ h; omega) kw kw kw
 | act op at_ a b k=>
  obtain ⟨nf,n1,n2,hcn,rfl,hk⟩:∃ (nf:FuncId) (n1 n2:List Value),af y6 nf=true∧pv=.agg (aC false ct.zero op at_ a b (kf nf n1 n2))∧FnT y6 ct u64 n F w0 (kf nf n1 n2) k:=by
   exact Rep.dx hp
  refine enter (l:=[.agg (aC false ct.zero op at_ a b (kf nf n1 n2)),kf ff f1 f2]) Tryz.func348 rfl 15 rfl rfl fun fr r=>?_;have hB:=Below.refl w0.heap.size w0
  refine a9 (q5 ?_);refine kX 318 (.agg (aC false ct.zero op at_ a b (kf nf n1 n2))) r rfl rfl fun b1 w1 q1 r=>?_;refine kX 290 (kf ff f1 f2) r rfl rfl fun b2 w2 q2 r=>?_
  refine ah (.cells (kq aj) 119 (0,0)) r (fun R=>ag bK) rfl fun fr b3 w3 q3 r=>q9 ?_;have h1:=keep q3.below (keep q2.below q1.at_)
  have h2:=keep q3.below q2.at_;have h3:=q3.at_;have e1:=q1.eq; have e2:=q2.eq; have e3:=q3.eq; have z1:=q1.size; have z2:=q2.size; have z3:=q3.size;have hB:=((hB.trans q1.below).trans (q2.below.mono kw)).trans (q3.below.mono kw)
  have zB:=hB.size;refine a9 (a9 (q5 (aa (zp b1) r (fun R=>az r (o:=0) rfl vL) rfl fun fr r=>?_)));refine aa (.bool false) r (fun R=>av r (v:=.bool false) rfl h1 to4 rfl) rfl fun fr r=>q9 ?_
  refine q4 (t:=false) (r.ev rfl) (fun h=>by cases h) (fun _=>q6 ?_);refine a9 (q5 (aa (.pointer (some ⟨b1,2,none⟩)) r (fun R=>az r (o:=0) rfl D6) rfl fun fr r=>kG (bk (⟨op,at_,a,b⟩:Access)) 4 r rfl h1 ta38 rfl rfl fun r=>aa (.func (.func 379) #[] #[zp b1,zp b2]) r (fun R=>aZ r rfl) rfl fun fr r=>?_))
  have hF1:∀ b,(fun b=>F b∨b=b1∨b=b2) b→b<w3.heap.size:=by rintro b (h | h | h); exact q8 (hF b h) hB.size; omega; omega
  refine kC r (l8 (F:=fun b=>F b∨b=b1∨b=b2) (n:=n) hF1 ⟨op,at_,a,b⟩ (a1:=fun x=>(k x).bind g) (show FnT y6 aj u64 n (fun b=>F b∨b=b1∨b=b2) w3 (kf 379 [] [zp b1,zp b2]) (fun x=>(k x).bind g) from
   ⟨379,[],[zp b1,zp b2],FH,rfl,fun m hm x w' hs hz=>zq (ih m hm) (fun b hb=>q8 (hF1 b hb) hz) (.inr (.inl rfl)) (hs.at_ (.inr (.inl rfl)) h1) (.inr (.inr rfl)) (hs.at_ (.inr (.inr rfl)) h2)
    (hk.mono kw (fun b h=>.inl h) ((Same.below hB hF).trans (hs.sub (fun b h=>.inl h))) (Nat.le_trans hB.size hz)) (hf.mono kw (fun b h=>.inl h) ((Same.below hB hF).trans (hs.sub (fun b h=>.inl h))) (Nat.le_trans hB.size hz)) x⟩)) rfl mg rfl ?_
  rintro _ w4 ⟨v,rfl,hb,hr⟩;refine ⟨_,rfl,fun fr r=>?_⟩
  have z4:=hb.size;have h3:=keep hb h3;have hB:=hB.trans (hb.mono hB.size);refine kP r hr.shape rfl rfl h3 bu rfl rfl fun w5 u5 r=>q9 ?_;have z5:=u5.size
  have h3:=u5.at_;have hB:=u5.below hB kw
  refine d9 ?_;have hs:=hr.shape.cells;refine ak r rfl rfl h3 (k:=7) hs.1 br ?_;rw [←hs.2.2];exact aG.fin hB hr u5 yag yav kw kw kw
theorem yD (hF:kH F w0) {t:T (Bool)} {pv fv:Value} {g:Bool→T (Int)} (hp:Rep y6 ct n t F w0 pv) (hf:FnT y6 aj aF (n+1) F w0 fv g) :
  Calls y6 348 #[pv,fv] w0 (aG y6 aj n (t.bind g) F w0):=zo n hF hp (hf.mono kw (fun b h=>h) (Same.refl _ _) (Nat.le_refl _)) (.inr hf)
def sj (n:Nat):Prop:=∀ {F:Nat→Prop} {w0:World},(∀ b,F b→b<w0.heap.size)→∀ {t:T (Unit)} {pv fv:Value} {g:Unit→T (Unit)},Rep y6 aD n t F w0 pv→FnT y6 aD noneE n F w0 fv g→
  (t.bA=false∨FnT y6 aD noneE (n+1) F w0 fv g)→Calls y6 352 #[pv,fv] w0 (aG y6 aD n (t.bind g) F w0)
theorem yY {n:Nat} (ih:sj n) {F:Nat→Prop} {w0:World} (hF:∀ b,F b→b<w0.heap.size) {op at_ a b:Int} {nf:FuncId} {n1 n2:List Value} {k:Int→T (Unit)} {ff:FuncId} {f1 f2:List Value} {g:Unit→T (Unit)}
    {b1 b2:Nat} (F1:F b1) (h1:w0.heap[b1]?=some (.cells (aC false aD.zero op at_ a b (kf nf n1 n2)) 133 (0,0))) (F2:F b2) (h2:w0.heap[b2]?=some (.cells #[kf ff f1 f2] 296 (0,0)))
    (hk:FnT y6 aD u64 (n+1) F w0 (kf nf n1 n2) k) (hg:FnT y6 aD noneE (n+1) F w0 (kf ff f1 f2) g) (x:Int) :
    Calls y6 385 #[.int .u64 x,zp b1,zp b2] w0 (aG y6 aD n ((k x).bind g) F w0):=by
 refine kN Tryz.func385 rfl 11 rfl rfl fun fr r hB=>?_;refine a9 (q5 ?_)
 refine ah (.cells (kq aD) 133 (0,0)) r (fun R=>ag dA) rfl fun fr b3 w1 q1 r=>wn ?_;have h1:=keep q1.below h1
 have h2:=keep q1.below h2;have e3:=q1.eq;have z1:=q1.size;have h3:=q1.at_;have hB:=hB.trans (q1.below.mono hB.size);have zB:=hB.size;refine a9 ?_;refine bN 5 [.val (.pointer (some ⟨b1,5,none⟩)),.val (kf nf n1 n2),.val (U x),.pred (RepAt y6 aD n (k x) F w0.heap.size b3) RepAt.stable,.val (kf ff f1 f2)] mixed r kz (cr trivial (cr trivial (cr trivial (cr trivial (cr trivial bM))))) ?_ ?_
 ·
  refine ec r (fun _ u _ b d s=>az s (b:=b1) (o:=0) rfl lR bz) ?_;refine dq r rfl (fun fr1 u w' hb' hd r'=>?_) ?_
  ·
   obtain ⟨d0,_⟩:=hd;exact av r' (v:=kf nf n1 n2) d0 (keep hb' h1) m9 rfl bz
  refine ec r (fun _ u _ b d s=>ay s rfl bz) ?_;refine dq r rfl (fun fr1 u w' hb' hd r'=>?_) ?_
  ·
   obtain ⟨d0,d1,_⟩:=hd;have zb:=hb'.size;have zb:w1.heap.size≤w'.heap.size:=zb;have hB':Below w0.heap.size w0 w':=hB.trans (Below.mono (w:=w1) ⟨hb'.os,hb'.tape,hb'.output,hb'.size,hb'.block⟩ hB.size);have d0:u 1=kf nf n1 n2:=d0;have d1:u 2=.int .u64 x:=d1;refine dI r' (fs:=n1) (cs:=n2) d0 d1 hk.at_.1 ((hk.at_.2 n (Nat.lt_succ_self n) x w' (Same.below hB' hF) hB'.size).mono ?_);rintro _ w2 ⟨v,rfl,hb2,hr2⟩;refine ⟨v,rfl,hb2,RepAt.lU (fun b h=>q8 (hF b h) hB'.size) kw hB'.size hb2 (Rep.mono ?_ (Same.refl _ _) (Nat.le_refl _) n _ _ hr2)⟩
   rintro b (h | h)
   · exact .inl (.inl h)
   · exact .inr h
  refine ec r (fun _ u _ b d s=>av s rfl (keep b h2) xm rfl bz) ?_;exact bO
 intro fr u w2 hb hΦ _ r;obtain ⟨_,hr3,_,hr⟩:RepAt y6 aD n (k x) F w0.heap.size b3 (u 3) w2:=hΦ 3 ke;have r:=r.congr (sc (hΦ 4 ke) rfl);have z2:=hb.size;have h1:=keep hb h1;have h2:=keep hb h2;have h3:=keep hb h3;have hB2:=hB.trans (hb.mono hB.size);have zB2:=hB2.size;have hF1:∀ b,(kW F w0 w2 b3) b→b<w2.heap.size:=by rintro b (h | h); exact q8 (hF b h) hB2.size; exact h.2.1
 refine kC r (ih (F:=fun b=>F b∨(w0.heap.size≤b∧b<w2.heap.size∧b≠b3)) hF1 hr (hg.mono kw (fun b h=>.inl h) (Same.below hB2 hF) hB2.size)
  (.inr (hg.mono (Nat.le_refl _) (fun b h=>.inl h) (Same.below hB2 hF) hB2.size))) rfl xN rfl ?_
 rintro _ w3 ⟨v2,rfl,hb2,hr2⟩;refine ⟨_,rfl,fun fr r=>?_⟩
 have z3:=hb2.size;have h3:=keep hb2 h3;have hB3:=hB2.trans (hb2.mono hB2.size);refine kP r hr2.shape rfl rfl h3 cX rfl rfl fun w4 u4 r=>wn ?_;have z4:=u4.size
 have h3:=u4.at_;have hB4:=u4.below hB3 kw
 refine d9 ?_;have hs:=hr2.shape.cells;refine ak r rfl rfl h3 (k:=6) hs.1 cT ?_;rw [←hs.2.2];exact aG.fin hB4 hr2 u4 yac yaa kw kw kw
theorem yV (n:Nat):sj n:=by
 induction n using Nat.strongRecOn with
 | _ n ih=>
 intro F w0 hF t pv fv g hp hf hd;obtain ⟨ff,f1,f2,hcf,rfl,hff⟩:=id hf;cases t with
 | cut=>unfold Rep at hp; exact hp.elim
 | done x0=>
  have hf:=hd.resolve_left yaB
  unfold Rep at hp
  subst hp;refine enter (l:=[.agg (aC true (aD.cells x0) 0 0 0 0 .nilFunc),kf ff f1 f2]) Tryz.func352 rfl 15 rfl rfl fun fr r=>?_;have hB:=Below.refl w0.heap.size w0
  refine a9 (q5 ?_);refine kX 133 (.agg (aC true (aD.cells x0) 0 0 0 0 .nilFunc)) r rfl rfl fun b1 w1 q1 r=>?_;refine kX 296 (kf ff f1 f2) r rfl rfl fun b2 w2 q2 r=>?_
  refine ah (.cells (kq aD) 133 (0,0)) r (fun R=>ag dA) rfl fun fr b3 w3 q3 r=>q9 ?_;have h1:=keep q3.below (keep q2.below q1.at_)
  have h2:=keep q3.below q2.at_;have h3:=q3.at_;have e1:=q1.eq; have e2:=q2.eq; have e3:=q3.eq; have z1:=q1.size; have z2:=q2.size; have z3:=q3.size;have hB:=((hB.trans q1.below).trans (q2.below.mono kw)).trans (q3.below.mono kw)
  have zB:=hB.size;refine a9 (a9 (q5 (aa (zp b1) r (fun R=>az r (o:=0) rfl eU) rfl fun fr r=>?_)));refine aa (.bool true) r (fun R=>av r (v:=.bool true) rfl h1 to4 rfl) rfl fun fr r=>q9 ?_
  refine q4 (t:=true) (r.ev rfl) (fun _=>?_) (fun h=>by cases h)
  refine a9 (q5 (aa (kf ff f1 f2) r (fun R=>av r (v:=kf ff f1 f2) rfl h2 xm rfl) rfl fun fr r=>?_));refine o9 b1 1 r (fun R=>ld r rfl m4 h1) rfl fun fr sp r=>aa (.agg #[]) r (fun R=>ll r rfl iY) rfl fun fr r=>?_
  refine cS r (hf.at_.2 n (Nat.lt_succ_self n) x0 w3 (Same.below hB hF) hB.size) (fun R hc=>ek r rfl rfl hf.at_.1 hc) rfl ?_;rintro _ w4 ⟨v,rfl,hb,hr⟩
  refine ⟨_,rfl,fun fr r=>?_⟩
  have z4:=hb.size;have h3:=keep hb h3;have hB:=hB.trans (hb.mono hB.size);refine kP r hr.shape rfl rfl h3 cX rfl rfl fun w5 u5 r=>q9 ?_;have z5:=u5.size
  have h3:=u5.at_;have hB:=u5.below hB kw
  refine d9 ?_;have hs:=hr.shape.cells;refine ak r rfl rfl h3 (k:=6) hs.1 cT ?_;rw [←hs.2.2];exact aG.fin hB hr u5 (fun b hb=>.inl hb) (fun h=>by have:=hF _ h; omega) kw kw kw
 | act op at_ a b k=>
  obtain ⟨nf,n1,n2,hcn,rfl,hk⟩:∃ (nf:FuncId) (n1 n2:List Value),af y6 nf=true∧pv=.agg (aC false aD.zero op at_ a b (kf nf n1 n2))∧FnT y6 aD u64 n F w0 (kf nf n1 n2) k:=by
   exact Rep.dx hp
  refine enter (l:=[.agg (aC false aD.zero op at_ a b (kf nf n1 n2)),kf ff f1 f2]) Tryz.func352 rfl 15 rfl rfl fun fr r=>?_;have hB:=Below.refl w0.heap.size w0
  refine a9 (q5 ?_);refine kX 133 (.agg (aC false aD.zero op at_ a b (kf nf n1 n2))) r rfl rfl fun b1 w1 q1 r=>?_;refine kX 296 (kf ff f1 f2) r rfl rfl fun b2 w2 q2 r=>?_
  refine ah (.cells (kq aD) 133 (0,0)) r (fun R=>ag dA) rfl fun fr b3 w3 q3 r=>q9 ?_;have h1:=keep q3.below (keep q2.below q1.at_)
  have h2:=keep q3.below q2.at_;have h3:=q3.at_;have e1:=q1.eq; have e2:=q2.eq; have e3:=q3.eq; have z1:=q1.size; have z2:=q2.size; have z3:=q3.size;have hB:=((hB.trans q1.below).trans (q2.below.mono kw)).trans (q3.below.mono kw)
  have zB:=hB.size;refine a9 (a9 (q5 (aa (zp b1) r (fun R=>az r (o:=0) rfl eU) rfl fun fr r=>?_)));refine aa (.bool false) r (fun R=>av r (v:=.bool false) rfl h1 to4 rfl) rfl fun fr r=>q9 ?_
  refine q4 (t:=false) (r.ev rfl) (fun h=>by cases h) (fun _=>q6 ?_);refine a9 (q5 (aa (.pointer (some ⟨b1,1,none⟩)) r (fun R=>az r (o:=0) rfl lQ) rfl fun fr r=>kG (bk (⟨op,at_,a,b⟩:Access)) 4 r rfl h1 ta38 rfl rfl fun r=>aa (.func (.func 385) #[] #[zp b1,zp b2]) r (fun R=>aZ r rfl) rfl fun fr r=>?_))
  have hF1:∀ b,(fun b=>F b∨b=b1∨b=b2) b→b<w3.heap.size:=by rintro b (h | h | h); exact q8 (hF b h) hB.size; omega; omega
  refine kC r (tC (F:=fun b=>F b∨b=b1∨b=b2) (n:=n) hF1 ⟨op,at_,a,b⟩ (a1:=fun x=>(k x).bind g) (show FnT y6 aD u64 n (fun b=>F b∨b=b1∨b=b2) w3 (kf 385 [] [zp b1,zp b2]) (fun x=>(k x).bind g) from
   ⟨385,[],[zp b1,zp b2],Gf,rfl,fun m hm x w' hs hz=>yY (ih m hm) (fun b hb=>q8 (hF1 b hb) hz) (.inr (.inl rfl)) (hs.at_ (.inr (.inl rfl)) h1) (.inr (.inr rfl)) (hs.at_ (.inr (.inr rfl)) h2)
    (hk.mono kw (fun b h=>.inl h) ((Same.below hB hF).trans (hs.sub (fun b h=>.inl h))) (Nat.le_trans hB.size hz)) (hf.mono kw (fun b h=>.inl h) ((Same.below hB hF).trans (hs.sub (fun b h=>.inl h))) (Nat.le_trans hB.size hz)) x⟩)) rfl wS rfl ?_
  rintro _ w4 ⟨v,rfl,hb,hr⟩;refine ⟨_,rfl,fun fr r=>?_⟩
  have z4:=hb.size;have h3:=keep hb h3;have hB:=hB.trans (hb.mono hB.size);refine kP r hr.shape rfl rfl h3 cX rfl rfl fun w5 u5 r=>q9 ?_;have z5:=u5.size
  have h3:=u5.at_;have hB:=u5.below hB kw
  refine d9 ?_;have hs:=hr.shape.cells;refine ak r rfl rfl h3 (k:=6) hs.1 cT ?_;rw [←hs.2.2];exact aG.fin hB hr u5 yag yav kw kw kw
theorem yw (hF:kH F w0) {t:T (Unit)} {pv fv:Value} {g:Unit→T (Unit)} (hp:Rep y6 aD n t F w0 pv) (hf:FnT y6 aD noneE n F w0 fv g) (hd:t.bA=false) :
  Calls y6 352 #[pv,fv] w0 (aG y6 aD n (t.bind g) F w0):=yV n hF hp hf (.inl hd)
def s6 (n:Nat):Prop:=∀ {F:Nat→Prop} {w0:World},(∀ b,F b→b<w0.heap.size)→∀ {t:T (Unit)} {pv fv:Value} {g:Unit→T (Int)},Rep y6 aD n t F w0 pv→FnT y6 bH noneE n F w0 fv g→
  (t.bA=false∨FnT y6 bH noneE (n+1) F w0 fv g)→Calls y6 360 #[pv,fv] w0 (aG y6 bH n (t.bind g) F w0)
theorem yz {n:Nat} (ih:s6 n) {F:Nat→Prop} {w0:World} (hF:∀ b,F b→b<w0.heap.size) {op at_ a b:Int} {nf:FuncId} {n1 n2:List Value} {k:Int→T (Unit)} {ff:FuncId} {f1 f2:List Value} {g:Unit→T (Int)}
    {b1 b2:Nat} (F1:F b1) (h1:w0.heap[b1]?=some (.cells (aC false aD.zero op at_ a b (kf nf n1 n2)) 133 (0,0))) (F2:F b2) (h2:w0.heap[b2]?=some (.cells #[kf ff f1 f2] 324 (0,0)))
    (hk:FnT y6 aD u64 (n+1) F w0 (kf nf n1 n2) k) (hg:FnT y6 bH noneE (n+1) F w0 (kf ff f1 f2) g) (x:Int) :
    Calls y6 386 #[.int .u64 x,zp b1,zp b2] w0 (aG y6 bH n ((k x).bind g) F w0):=by
 refine kN Tryz.func386 rfl 11 rfl rfl fun fr r hB=>?_;refine a9 (q5 ?_)
 refine ah (.cells (kq bH) 271 (0,0)) r (fun R=>ag eY) rfl fun fr b3 w1 q1 r=>wn ?_;have h1:=keep q1.below h1
 have h2:=keep q1.below h2;have e3:=q1.eq;have z1:=q1.size;have h3:=q1.at_;have hB:=hB.trans (q1.below.mono hB.size);have zB:=hB.size;refine a9 ?_;refine bN 5 [.val (.pointer (some ⟨b1,5,none⟩)),.val (kf nf n1 n2),.val (U x),.pred (RepAt y6 aD n (k x) F w0.heap.size b3) RepAt.stable,.val (kf ff f1 f2)] mixed r kz (cr trivial (cr trivial (cr trivial (cr trivial (cr trivial bM))))) ?_ ?_
 ·
  refine ec r (fun _ u _ b d s=>az s (b:=b1) (o:=0) rfl lR bz) ?_;refine dq r rfl (fun fr1 u w' hb' hd r'=>?_) ?_
  ·
   obtain ⟨d0,_⟩:=hd;exact av r' (v:=kf nf n1 n2) d0 (keep hb' h1) m9 rfl bz
  refine ec r (fun _ u _ b d s=>ay s rfl bz) ?_;refine dq r rfl (fun fr1 u w' hb' hd r'=>?_) ?_
  ·
   obtain ⟨d0,d1,_⟩:=hd;have zb:=hb'.size;have zb:w1.heap.size≤w'.heap.size:=zb;have hB':Below w0.heap.size w0 w':=hB.trans (Below.mono (w:=w1) ⟨hb'.os,hb'.tape,hb'.output,hb'.size,hb'.block⟩ hB.size);have d0:u 1=kf nf n1 n2:=d0;have d1:u 2=.int .u64 x:=d1;refine dI r' (fs:=n1) (cs:=n2) d0 d1 hk.at_.1 ((hk.at_.2 n (Nat.lt_succ_self n) x w' (Same.below hB' hF) hB'.size).mono ?_);rintro _ w2 ⟨v,rfl,hb2,hr2⟩;refine ⟨v,rfl,hb2,RepAt.lU (fun b h=>q8 (hF b h) hB'.size) kw hB'.size hb2 (Rep.mono ?_ (Same.refl _ _) (Nat.le_refl _) n _ _ hr2)⟩
   rintro b (h | h)
   · exact .inl (.inl h)
   · exact .inr h
  refine ec r (fun _ u _ b d s=>av s rfl (keep b h2) xE rfl bz) ?_;exact bO
 intro fr u w2 hb hΦ _ r;obtain ⟨_,hr3,_,hr⟩:RepAt y6 aD n (k x) F w0.heap.size b3 (u 3) w2:=hΦ 3 ke;have r:=r.congr (sc (hΦ 4 ke) rfl);have z2:=hb.size;have h1:=keep hb h1;have h2:=keep hb h2;have h3:=keep hb h3;have hB2:=hB.trans (hb.mono hB.size);have zB2:=hB2.size;have hF1:∀ b,(kW F w0 w2 b3) b→b<w2.heap.size:=by rintro b (h | h); exact q8 (hF b h) hB2.size; exact h.2.1
 refine kC r (ih (F:=fun b=>F b∨(w0.heap.size≤b∧b<w2.heap.size∧b≠b3)) hF1 hr (hg.mono kw (fun b h=>.inl h) (Same.below hB2 hF) hB2.size)
  (.inr (hg.mono (Nat.le_refl _) (fun b h=>.inl h) (Same.below hB2 hF) hB2.size))) rfl xK rfl ?_
 rintro _ w3 ⟨v2,rfl,hb2,hr2⟩;refine ⟨_,rfl,fun fr r=>?_⟩
 have z3:=hb2.size;have h3:=keep hb2 h3;have hB3:=hB2.trans (hb2.mono hB2.size);refine kP r hr2.shape rfl rfl h3 eI rfl rfl fun w4 u4 r=>wn ?_;have z4:=u4.size
 have h3:=u4.at_;have hB4:=u4.below hB3 kw
 refine d9 ?_;have hs:=hr2.shape.cells;refine ak r rfl rfl h3 (k:=7) hs.1 eH ?_;rw [←hs.2.2];exact aG.fin hB4 hr2 u4 yac yaa kw kw kw
theorem yB (n:Nat):s6 n:=by
 induction n using Nat.strongRecOn with
 | _ n ih=>
 intro F w0 hF t pv fv g hp hf hd;obtain ⟨ff,f1,f2,hcf,rfl,hff⟩:=id hf;cases t with
 | cut=>unfold Rep at hp; exact hp.elim
 | done x0=>
  have hf:=hd.resolve_left yaB
  unfold Rep at hp
  subst hp;refine enter (l:=[.agg (aC true (aD.cells x0) 0 0 0 0 .nilFunc),kf ff f1 f2]) Tryz.func360 rfl 15 rfl rfl fun fr r=>?_;have hB:=Below.refl w0.heap.size w0
  refine a9 (q5 ?_);refine kX 133 (.agg (aC true (aD.cells x0) 0 0 0 0 .nilFunc)) r rfl rfl fun b1 w1 q1 r=>?_;refine kX 324 (kf ff f1 f2) r rfl rfl fun b2 w2 q2 r=>?_
  refine ah (.cells (kq bH) 271 (0,0)) r (fun R=>ag eY) rfl fun fr b3 w3 q3 r=>q9 ?_;have h1:=keep q3.below (keep q2.below q1.at_)
  have h2:=keep q3.below q2.at_;have h3:=q3.at_;have e1:=q1.eq; have e2:=q2.eq; have e3:=q3.eq; have z1:=q1.size; have z2:=q2.size; have z3:=q3.size;have hB:=((hB.trans q1.below).trans (q2.below.mono kw)).trans (q3.below.mono kw)
  have zB:=hB.size;refine a9 (a9 (q5 (aa (zp b1) r (fun R=>az r (o:=0) rfl eU) rfl fun fr r=>?_)));refine aa (.bool true) r (fun R=>av r (v:=.bool true) rfl h1 to4 rfl) rfl fun fr r=>q9 ?_
  refine q4 (t:=true) (r.ev rfl) (fun _=>?_) (fun h=>by cases h)
  refine a9 (q5 (aa (kf ff f1 f2) r (fun R=>av r (v:=kf ff f1 f2) rfl h2 xE rfl) rfl fun fr r=>?_));refine o9 b1 1 r (fun R=>ld r rfl m4 h1) rfl fun fr sp r=>aa (.agg #[]) r (fun R=>ll r rfl iY) rfl fun fr r=>?_
  refine cS r (hf.at_.2 n (Nat.lt_succ_self n) x0 w3 (Same.below hB hF) hB.size) (fun R hc=>ek r rfl rfl hf.at_.1 hc) rfl ?_;rintro _ w4 ⟨v,rfl,hb,hr⟩
  refine ⟨_,rfl,fun fr r=>?_⟩
  have z4:=hb.size;have h3:=keep hb h3;have hB:=hB.trans (hb.mono hB.size);refine kP r hr.shape rfl rfl h3 eI rfl rfl fun w5 u5 r=>q9 ?_;have z5:=u5.size
  have h3:=u5.at_;have hB:=u5.below hB kw
  refine d9 ?_;have hs:=hr.shape.cells;refine ak r rfl rfl h3 (k:=7) hs.1 eH ?_;rw [←hs.2.2];exact aG.fin hB hr u5 (fun b hb=>.inl hb) (fun h=>by have:=hF _ h; omega) kw kw kw
 | act op at_ a b k=>
  obtain ⟨nf,n1,n2,hcn,rfl,hk⟩:∃ (nf:FuncId) (n1 n2:List Value),af y6 nf=true∧pv=.agg (aC false aD.zero op at_ a b (kf nf n1 n2))∧FnT y6 aD u64 n F w0 (kf nf n1 n2) k:=by
   exact Rep.dx hp
  refine enter (l:=[.agg (aC false aD.zero op at_ a b (kf nf n1 n2)),kf ff f1 f2]) Tryz.func360 rfl 15 rfl rfl fun fr r=>?_;have hB:=Below.refl w0.heap.size w0
  refine a9 (q5 ?_);refine kX 133 (.agg (aC false aD.zero op at_ a b (kf nf n1 n2))) r rfl rfl fun b1 w1 q1 r=>?_;refine kX 324 (kf ff f1 f2) r rfl rfl fun b2 w2 q2 r=>?_
  refine ah (.cells (kq bH) 271 (0,0)) r (fun R=>ag eY) rfl fun fr b3 w3 q3 r=>q9 ?_;have h1:=keep q3.below (keep q2.below q1.at_)
  have h2:=keep q3.below q2.at_;have h3:=q3.at_;have e1:=q1.eq; have e2:=q2.eq; have e3:=q3.eq; have z1:=q1.size; have z2:=q2.size; have z3:=q3.size;have hB:=((hB.trans q1.below).trans (q2.below.mono kw)).trans (q3.below.mono kw)
  have zB:=hB.size;refine a9 (a9 (q5 (aa (zp b1) r (fun R=>az r (o:=0) rfl eU) rfl fun fr r=>?_)));refine aa (.bool false) r (fun R=>av r (v:=.bool false) rfl h1 to4 rfl) rfl fun fr r=>q9 ?_
  refine q4 (t:=false) (r.ev rfl) (fun h=>by cases h) (fun _=>q6 ?_);refine a9 (q5 (aa (.pointer (some ⟨b1,1,none⟩)) r (fun R=>az r (o:=0) rfl lQ) rfl fun fr r=>kG (bk (⟨op,at_,a,b⟩:Access)) 4 r rfl h1 ta38 rfl rfl fun r=>aa (.func (.func 386) #[] #[zp b1,zp b2]) r (fun R=>aZ r rfl) rfl fun fr r=>?_))
  have hF1:∀ b,(fun b=>F b∨b=b1∨b=b2) b→b<w3.heap.size:=by rintro b (h | h | h); exact q8 (hF b h) hB.size; omega; omega
  refine kC r (sW (F:=fun b=>F b∨b=b1∨b=b2) (n:=n) hF1 ⟨op,at_,a,b⟩ (a1:=fun x=>(k x).bind g) (show FnT y6 bH u64 n (fun b=>F b∨b=b1∨b=b2) w3 (kf 386 [] [zp b1,zp b2]) (fun x=>(k x).bind g) from
   ⟨386,[],[zp b1,zp b2],Er,rfl,fun m hm x w' hs hz=>yz (ih m hm) (fun b hb=>q8 (hF1 b hb) hz) (.inr (.inl rfl)) (hs.at_ (.inr (.inl rfl)) h1) (.inr (.inr rfl)) (hs.at_ (.inr (.inr rfl)) h2)
    (hk.mono kw (fun b h=>.inl h) ((Same.below hB hF).trans (hs.sub (fun b h=>.inl h))) (Nat.le_trans hB.size hz)) (hf.mono kw (fun b h=>.inl h) ((Same.below hB hF).trans (hs.sub (fun b h=>.inl h))) (Nat.le_trans hB.size hz)) x⟩)) rfl wN rfl ?_
  rintro _ w4 ⟨v,rfl,hb,hr⟩;refine ⟨_,rfl,fun fr r=>?_⟩
  have z4:=hb.size;have h3:=keep hb h3;have hB:=hB.trans (hb.mono hB.size);refine kP r hr.shape rfl rfl h3 eI rfl rfl fun w5 u5 r=>q9 ?_;have z5:=u5.size
  have h3:=u5.at_;have hB:=u5.below hB kw
  refine d9 ?_;have hs:=hr.shape.cells;refine ak r rfl rfl h3 (k:=7) hs.1 eH ?_;rw [←hs.2.2];exact aG.fin hB hr u5 yag yav kw kw kw
theorem yg (hF:kH F w0) {t:T (Unit)} {pv fv:Value} {g:Unit→T (Int)} (hp:Rep y6 aD n t F w0 pv) (hf:FnT y6 bH noneE (n+1) F w0 fv g) :
  Calls y6 360 #[pv,fv] w0 (aG y6 bH n (t.bind g) F w0):=yB n hF hp (hf.mono kw (fun b h=>h) (Same.refl _ _) (Nat.le_refl _)) (.inr hf)
def sw (n:Nat):Prop:=∀ {F:Nat→Prop} {w0:World},(∀ b,F b→b<w0.heap.size)→∀ {t:T (Int)} {pv fv:Value} {g:Int→T (Grant)},Rep y6 aj n t F w0 pv→FnT y6 bw i64 n F w0 fv g→
  (t.bA=false∨FnT y6 bw i64 (n+1) F w0 fv g)→Calls y6 181 #[pv,fv] w0 (aG y6 bw n (t.bind g) F w0)
theorem yQ {n:Nat} (ih:sw n) {F:Nat→Prop} {w0:World} (hF:∀ b,F b→b<w0.heap.size) {op at_ a b:Int} {nf:FuncId} {n1 n2:List Value} {k:Int→T (Int)} {ff:FuncId} {f1 f2:List Value} {g:Int→T (Grant)}
    {b1 b2:Nat} (F1:F b1) (h1:w0.heap[b1]?=some (.cells (aC false aj.zero op at_ a b (kf nf n1 n2)) 119 (0,0))) (F2:F b2) (h2:w0.heap[b2]?=some (.cells #[kf ff f1 f2] 233 (0,0)))
    (hk:FnT y6 aj u64 (n+1) F w0 (kf nf n1 n2) k) (hg:FnT y6 bw i64 (n+1) F w0 (kf ff f1 f2) g) (x:Int) :
    Calls y6 275 #[.int .u64 x,zp b1,zp b2] w0 (aG y6 bw n ((k x).bind g) F w0):=by
 refine kN Tryz.func275 rfl 11 rfl rfl fun fr r hB=>?_;refine a9 (q5 ?_)
 refine ah (.cells (kq bw) 116 (0,0)) r (fun R=>ag dU) rfl fun fr b3 w1 q1 r=>wn ?_;have h1:=keep q1.below h1
 have h2:=keep q1.below h2;have e3:=q1.eq;have z1:=q1.size;have h3:=q1.at_;have hB:=hB.trans (q1.below.mono hB.size);have zB:=hB.size;refine a9 ?_;refine bN 5 [.val (.pointer (some ⟨b1,6,none⟩)),.val (kf nf n1 n2),.val (U x),.pred (RepAt y6 aj n (k x) F w0.heap.size b3) RepAt.stable,.val (kf ff f1 f2)] mixed r kz (cr trivial (cr trivial (cr trivial (cr trivial (cr trivial bM))))) ?_ ?_
 ·
  refine ec r (fun _ u _ b d s=>az s (b:=b1) (o:=0) rfl ow bz) ?_;refine dq r rfl (fun fr1 u w' hb' hd r'=>?_) ?_
  ·
   obtain ⟨d0,_⟩:=hd;exact av r' (v:=kf nf n1 n2) d0 (keep hb' h1) oN rfl bz
  refine ec r (fun _ u _ b d s=>ay s rfl bz) ?_;refine dq r rfl (fun fr1 u w' hb' hd r'=>?_) ?_
  ·
   obtain ⟨d0,d1,_⟩:=hd;have zb:=hb'.size;have zb:w1.heap.size≤w'.heap.size:=zb;have hB':Below w0.heap.size w0 w':=hB.trans (Below.mono (w:=w1) ⟨hb'.os,hb'.tape,hb'.output,hb'.size,hb'.block⟩ hB.size);have d0:u 1=kf nf n1 n2:=d0;have d1:u 2=.int .u64 x:=d1;refine dI r' (fs:=n1) (cs:=n2) d0 d1 hk.at_.1 ((hk.at_.2 n (Nat.lt_succ_self n) x w' (Same.below hB' hF) hB'.size).mono ?_);rintro _ w2 ⟨v,rfl,hb2,hr2⟩;refine ⟨v,rfl,hb2,RepAt.lU (fun b h=>q8 (hF b h) hB'.size) kw hB'.size hb2 (Rep.mono ?_ (Same.refl _ _) (Nat.le_refl _) n _ _ hr2)⟩
   rintro b (h | h)
   · exact .inl (.inl h)
   · exact .inr h
  refine ec r (fun _ u _ b d s=>av s rfl (keep b h2) rA rfl bz) ?_;exact bO
 intro fr u w2 hb hΦ _ r;obtain ⟨_,hr3,_,hr⟩:RepAt y6 aj n (k x) F w0.heap.size b3 (u 3) w2:=hΦ 3 ke;have r:=r.congr (sc (hΦ 4 ke) rfl);have z2:=hb.size;have h1:=keep hb h1;have h2:=keep hb h2;have h3:=keep hb h3;have hB2:=hB.trans (hb.mono hB.size);have zB2:=hB2.size;have hF1:∀ b,(kW F w0 w2 b3) b→b<w2.heap.size:=by rintro b (h | h); exact q8 (hF b h) hB2.size; exact h.2.1
 refine kC r (ih (F:=fun b=>F b∨(w0.heap.size≤b∧b<w2.heap.size∧b≠b3)) hF1 hr (hg.mono kw (fun b h=>.inl h) (Same.below hB2 hF) hB2.size)
  (.inr (hg.mono (Nat.le_refl _) (fun b h=>.inl h) (Same.below hB2 hF) hB2.size))) rfl oR rfl ?_
 rintro _ w3 ⟨v2,rfl,hb2,hr2⟩;refine ⟨_,rfl,fun fr r=>?_⟩
 have z3:=hb2.size;have h3:=keep hb2 h3;have hB3:=hB2.trans (hb2.mono hB2.size);refine kP r hr2.shape rfl rfl h3 dM rfl rfl fun w4 u4 r=>wn ?_;have z4:=u4.size
 have h3:=u4.at_;have hB4:=u4.below hB3 kw
 refine d9 ?_;have hs:=hr2.shape.cells;refine ak r rfl rfl h3 (k:=9) hs.1 dL ?_;rw [←hs.2.2];exact aG.fin hB4 hr2 u4 yac yaa kw kw kw
theorem yO (n:Nat):sw n:=by
 induction n using Nat.strongRecOn with
 | _ n ih=>
 intro F w0 hF t pv fv g hp hf hd;obtain ⟨ff,f1,f2,hcf,rfl,hff⟩:=id hf;cases t with
 | cut=>unfold Rep at hp; exact hp.elim
 | done x0=>
  have hf:=hd.resolve_left yaB
  unfold Rep at hp
  subst hp;refine enter (l:=[.agg (aC true (aj.cells x0) 0 0 0 0 .nilFunc),kf ff f1 f2]) Tryz.func181 rfl 15 rfl rfl fun fr r=>?_;have hB:=Below.refl w0.heap.size w0
  refine a9 (q5 ?_);refine kX 119 (.agg (aC true (aj.cells x0) 0 0 0 0 .nilFunc)) r rfl rfl fun b1 w1 q1 r=>?_;refine kX 233 (kf ff f1 f2) r rfl rfl fun b2 w2 q2 r=>?_
  refine ah (.cells (kq bw) 116 (0,0)) r (fun R=>ag dU) rfl fun fr b3 w3 q3 r=>q9 ?_;have h1:=keep q3.below (keep q2.below q1.at_)
  have h2:=keep q3.below q2.at_;have h3:=q3.at_;have e1:=q1.eq; have e2:=q2.eq; have e3:=q3.eq; have z1:=q1.size; have z2:=q2.size; have z3:=q3.size;have hB:=((hB.trans q1.below).trans (q2.below.mono kw)).trans (q3.below.mono kw)
  have zB:=hB.size;refine a9 (a9 (q5 (aa (zp b1) r (fun R=>az r (o:=0) rfl gW) rfl fun fr r=>?_)));refine aa (.bool true) r (fun R=>av r (v:=.bool true) rfl h1 to4 rfl) rfl fun fr r=>q9 ?_
  refine q4 (t:=true) (r.ev rfl) (fun _=>?_) (fun h=>by cases h)
  refine a9 (q5 (aa (kf ff f1 f2) r (fun R=>av r (v:=kf ff f1 f2) rfl h2 rA rfl) rfl fun fr r=>aa (.pointer (some ⟨b1,1,none⟩)) r (fun R=>az r (o:=0) rfl om) rfl fun fr r=>aa (.int .i64 x0) r (fun R=>av r (v:=(.int .i64 x0)) rfl h1 to3 rfl) rfl fun fr r=>?_));refine cS r (hf.at_.2 n (Nat.lt_succ_self n) x0 w3 (Same.below hB hF) hB.size) (fun R hc=>ek r rfl rfl hf.at_.1 hc) rfl ?_
  rintro _ w4 ⟨v,rfl,hb,hr⟩;refine ⟨_,rfl,fun fr r=>?_⟩
  have z4:=hb.size;have h3:=keep hb h3;have hB:=hB.trans (hb.mono hB.size);refine kP r hr.shape rfl rfl h3 dM rfl rfl fun w5 u5 r=>q9 ?_;have z5:=u5.size
  have h3:=u5.at_;have hB:=u5.below hB kw
  refine d9 ?_;have hs:=hr.shape.cells;refine ak r rfl rfl h3 (k:=9) hs.1 dL ?_;rw [←hs.2.2];exact aG.fin hB hr u5 (fun b hb=>.inl hb) (fun h=>by have:=hF _ h; omega) kw kw kw
 | act op at_ a b k=>
  obtain ⟨nf,n1,n2,hcn,rfl,hk⟩:∃ (nf:FuncId) (n1 n2:List Value),af y6 nf=true∧pv=.agg (aC false aj.zero op at_ a b (kf nf n1 n2))∧FnT y6 aj u64 n F w0 (kf nf n1 n2) k:=by
   exact Rep.dx hp
  refine enter (l:=[.agg (aC false aj.zero op at_ a b (kf nf n1 n2)),kf ff f1 f2]) Tryz.func181 rfl 15 rfl rfl fun fr r=>?_;have hB:=Below.refl w0.heap.size w0
  refine a9 (q5 ?_);refine kX 119 (.agg (aC false aj.zero op at_ a b (kf nf n1 n2))) r rfl rfl fun b1 w1 q1 r=>?_;refine kX 233 (kf ff f1 f2) r rfl rfl fun b2 w2 q2 r=>?_
  refine ah (.cells (kq bw) 116 (0,0)) r (fun R=>ag dU) rfl fun fr b3 w3 q3 r=>q9 ?_;have h1:=keep q3.below (keep q2.below q1.at_)
  have h2:=keep q3.below q2.at_;have h3:=q3.at_;have e1:=q1.eq; have e2:=q2.eq; have e3:=q3.eq; have z1:=q1.size; have z2:=q2.size; have z3:=q3.size;have hB:=((hB.trans q1.below).trans (q2.below.mono kw)).trans (q3.below.mono kw)
  have zB:=hB.size;refine a9 (a9 (q5 (aa (zp b1) r (fun R=>az r (o:=0) rfl gW) rfl fun fr r=>?_)));refine aa (.bool false) r (fun R=>av r (v:=.bool false) rfl h1 to4 rfl) rfl fun fr r=>q9 ?_
  refine q4 (t:=false) (r.ev rfl) (fun h=>by cases h) (fun _=>q6 ?_);refine a9 (q5 (aa (.pointer (some ⟨b1,2,none⟩)) r (fun R=>az r (o:=0) rfl ou) rfl fun fr r=>kG (bk (⟨op,at_,a,b⟩:Access)) 4 r rfl h1 ta38 rfl rfl fun r=>aa (.func (.func 275) #[] #[zp b1,zp b2]) r (fun R=>aZ r rfl) rfl fun fr r=>?_))
  have hF1:∀ b,(fun b=>F b∨b=b1∨b=b2) b→b<w3.heap.size:=by rintro b (h | h | h); exact q8 (hF b h) hB.size; omega; omega
  refine kC r (pP (F:=fun b=>F b∨b=b1∨b=b2) (n:=n) hF1 ⟨op,at_,a,b⟩ (a1:=fun x=>(k x).bind g) (show FnT y6 bw u64 n (fun b=>F b∨b=b1∨b=b2) w3 (kf 275 [] [zp b1,zp b2]) (fun x=>(k x).bind g) from
   ⟨275,[],[zp b1,zp b2],Eu,rfl,fun m hm x w' hs hz=>yQ (ih m hm) (fun b hb=>q8 (hF1 b hb) hz) (.inr (.inl rfl)) (hs.at_ (.inr (.inl rfl)) h1) (.inr (.inr rfl)) (hs.at_ (.inr (.inr rfl)) h2)
    (hk.mono kw (fun b h=>.inl h) ((Same.below hB hF).trans (hs.sub (fun b h=>.inl h))) (Nat.le_trans hB.size hz)) (hf.mono kw (fun b h=>.inl h) ((Same.below hB hF).trans (hs.sub (fun b h=>.inl h))) (Nat.le_trans hB.size hz)) x⟩)) rfl rB rfl ?_
  rintro _ w4 ⟨v,rfl,hb,hr⟩;refine ⟨_,rfl,fun fr r=>?_⟩
  have z4:=hb.size;have h3:=keep hb h3;have hB:=hB.trans (hb.mono hB.size);refine kP r hr.shape rfl rfl h3 dM rfl rfl fun w5 u5 r=>q9 ?_;have z5:=u5.size
  have h3:=u5.at_;have hB:=u5.below hB kw
  refine d9 ?_;have hs:=hr.shape.cells;refine ak r rfl rfl h3 (k:=9) hs.1 dL ?_;rw [←hs.2.2];exact aG.fin hB hr u5 yag yav kw kw kw
theorem oZ (hF:kH F w0) {t:T (Int)} {pv fv:Value} {g:Int→T (Grant)} (hp:Rep y6 aj n t F w0 pv) (hf:FnT y6 bw i64 (n+1) F w0 fv g) :
  Calls y6 181 #[pv,fv] w0 (aG y6 bw n (t.bind g) F w0):=yO n hF hp (hf.mono kw (fun b h=>h) (Same.refl _ _) (Nat.le_refl _)) (.inr hf)
def sD (n:Nat):Prop:=∀ {F:Nat→Prop} {w0:World},(∀ b,F b→b<w0.heap.size)→∀ {t:T (Int)} {pv fv:Value} {g:Int→T (Int)},Rep y6 aj n t F w0 pv→FnT y6 aj i64 n F w0 fv g→
  (t.bA=false∨FnT y6 aj i64 (n+1) F w0 fv g)→Calls y6 223 #[pv,fv] w0 (aG y6 aj n (t.bind g) F w0)
theorem zE {n:Nat} (ih:sD n) {F:Nat→Prop} {w0:World} (hF:∀ b,F b→b<w0.heap.size) {op at_ a b:Int} {nf:FuncId} {n1 n2:List Value} {k:Int→T (Int)} {ff:FuncId} {f1 f2:List Value} {g:Int→T (Int)}
    {b1 b2:Nat} (F1:F b1) (h1:w0.heap[b1]?=some (.cells (aC false aj.zero op at_ a b (kf nf n1 n2)) 119 (0,0))) (F2:F b2) (h2:w0.heap[b2]?=some (.cells #[kf ff f1 f2] 261 (0,0)))
    (hk:FnT y6 aj u64 (n+1) F w0 (kf nf n1 n2) k) (hg:FnT y6 aj i64 (n+1) F w0 (kf ff f1 f2) g) (x:Int) :
    Calls y6 297 #[.int .u64 x,zp b1,zp b2] w0 (aG y6 aj n ((k x).bind g) F w0):=by
 refine kN Tryz.func297 rfl 11 rfl rfl fun fr r hB=>?_;refine a9 (q5 ?_)
 refine ah (.cells (kq aj) 119 (0,0)) r (fun R=>ag bK) rfl fun fr b3 w1 q1 r=>wn ?_;have h1:=keep q1.below h1
 have h2:=keep q1.below h2;have e3:=q1.eq;have z1:=q1.size;have h3:=q1.at_;have hB:=hB.trans (q1.below.mono hB.size);have zB:=hB.size;refine a9 ?_;refine bN 5 [.val (.pointer (some ⟨b1,6,none⟩)),.val (kf nf n1 n2),.val (U x),.pred (RepAt y6 aj n (k x) F w0.heap.size b3) RepAt.stable,.val (kf ff f1 f2)] mixed r kz (cr trivial (cr trivial (cr trivial (cr trivial (cr trivial bM))))) ?_ ?_
 ·
  refine ec r (fun _ u _ b d s=>az s (b:=b1) (o:=0) rfl ow bz) ?_;refine dq r rfl (fun fr1 u w' hb' hd r'=>?_) ?_
  ·
   obtain ⟨d0,_⟩:=hd;exact av r' (v:=kf nf n1 n2) d0 (keep hb' h1) oN rfl bz
  refine ec r (fun _ u _ b d s=>ay s rfl bz) ?_;refine dq r rfl (fun fr1 u w' hb' hd r'=>?_) ?_
  ·
   obtain ⟨d0,d1,_⟩:=hd;have zb:=hb'.size;have zb:w1.heap.size≤w'.heap.size:=zb;have hB':Below w0.heap.size w0 w':=hB.trans (Below.mono (w:=w1) ⟨hb'.os,hb'.tape,hb'.output,hb'.size,hb'.block⟩ hB.size);have d0:u 1=kf nf n1 n2:=d0;have d1:u 2=.int .u64 x:=d1;refine dI r' (fs:=n1) (cs:=n2) d0 d1 hk.at_.1 ((hk.at_.2 n (Nat.lt_succ_self n) x w' (Same.below hB' hF) hB'.size).mono ?_);rintro _ w2 ⟨v,rfl,hb2,hr2⟩;refine ⟨v,rfl,hb2,RepAt.lU (fun b h=>q8 (hF b h) hB'.size) kw hB'.size hb2 (Rep.mono ?_ (Same.refl _ _) (Nat.le_refl _) n _ _ hr2)⟩
   rintro b (h | h)
   · exact .inl (.inl h)
   · exact .inr h
  refine ec r (fun _ u _ b d s=>av s rfl (keep b h2) rP rfl bz) ?_;exact bO
 intro fr u w2 hb hΦ _ r;obtain ⟨_,hr3,_,hr⟩:RepAt y6 aj n (k x) F w0.heap.size b3 (u 3) w2:=hΦ 3 ke;have r:=r.congr (sc (hΦ 4 ke) rfl);have z2:=hb.size;have h1:=keep hb h1;have h2:=keep hb h2;have h3:=keep hb h3;have hB2:=hB.trans (hb.mono hB.size);have zB2:=hB2.size;have hF1:∀ b,(kW F w0 w2 b3) b→b<w2.heap.size:=by rintro b (h | h); exact q8 (hF b h) hB2.size; exact h.2.1
 refine kC r (ih (F:=fun b=>F b∨(w0.heap.size≤b∧b<w2.heap.size∧b≠b3)) hF1 hr (hg.mono kw (fun b h=>.inl h) (Same.below hB2 hF) hB2.size)
  (.inr (hg.mono (Nat.le_refl _) (fun b h=>.inl h) (Same.below hB2 hF) hB2.size))) rfl mf rfl ?_
 rintro _ w3 ⟨v2,rfl,hb2,hr2⟩;refine ⟨_,rfl,fun fr r=>?_⟩
 have z3:=hb2.size;have h3:=keep hb2 h3;have hB3:=hB2.trans (hb2.mono hB2.size);refine kP r hr2.shape rfl rfl h3 bu rfl rfl fun w4 u4 r=>wn ?_;have z4:=u4.size
 have h3:=u4.at_;have hB4:=u4.below hB3 kw
 refine d9 ?_;have hs:=hr2.shape.cells;refine ak r rfl rfl h3 (k:=7) hs.1 br ?_;rw [←hs.2.2];exact aG.fin hB4 hr2 u4 yac yaa kw kw kw
theorem sK (n:Nat):sD n:=by
 induction n using Nat.strongRecOn with
 | _ n ih=>
 intro F w0 hF t pv fv g hp hf hd;obtain ⟨ff,f1,f2,hcf,rfl,hff⟩:=id hf;cases t with
 | cut=>unfold Rep at hp; exact hp.elim
 | done x0=>
  have hf:=hd.resolve_left yaB
  unfold Rep at hp
  subst hp;refine enter (l:=[.agg (aC true (aj.cells x0) 0 0 0 0 .nilFunc),kf ff f1 f2]) Tryz.func223 rfl 15 rfl rfl fun fr r=>?_;have hB:=Below.refl w0.heap.size w0
  refine a9 (q5 ?_);refine kX 119 (.agg (aC true (aj.cells x0) 0 0 0 0 .nilFunc)) r rfl rfl fun b1 w1 q1 r=>?_;refine kX 261 (kf ff f1 f2) r rfl rfl fun b2 w2 q2 r=>?_
  refine ah (.cells (kq aj) 119 (0,0)) r (fun R=>ag bK) rfl fun fr b3 w3 q3 r=>q9 ?_;have h1:=keep q3.below (keep q2.below q1.at_)
  have h2:=keep q3.below q2.at_;have h3:=q3.at_;have e1:=q1.eq; have e2:=q2.eq; have e3:=q3.eq; have z1:=q1.size; have z2:=q2.size; have z3:=q3.size;have hB:=((hB.trans q1.below).trans (q2.below.mono kw)).trans (q3.below.mono kw)
  have zB:=hB.size;refine a9 (a9 (q5 (aa (zp b1) r (fun R=>az r (o:=0) rfl gW) rfl fun fr r=>?_)));refine aa (.bool true) r (fun R=>av r (v:=.bool true) rfl h1 to4 rfl) rfl fun fr r=>q9 ?_
  refine q4 (t:=true) (r.ev rfl) (fun _=>?_) (fun h=>by cases h)
  refine a9 (q5 (aa (kf ff f1 f2) r (fun R=>av r (v:=kf ff f1 f2) rfl h2 rP rfl) rfl fun fr r=>aa (.pointer (some ⟨b1,1,none⟩)) r (fun R=>az r (o:=0) rfl om) rfl fun fr r=>aa (.int .i64 x0) r (fun R=>av r (v:=(.int .i64 x0)) rfl h1 to3 rfl) rfl fun fr r=>?_));refine cS r (hf.at_.2 n (Nat.lt_succ_self n) x0 w3 (Same.below hB hF) hB.size) (fun R hc=>ek r rfl rfl hf.at_.1 hc) rfl ?_
  rintro _ w4 ⟨v,rfl,hb,hr⟩;refine ⟨_,rfl,fun fr r=>?_⟩
  have z4:=hb.size;have h3:=keep hb h3;have hB:=hB.trans (hb.mono hB.size);refine kP r hr.shape rfl rfl h3 bu rfl rfl fun w5 u5 r=>q9 ?_;have z5:=u5.size
  have h3:=u5.at_;have hB:=u5.below hB kw
  refine d9 ?_;have hs:=hr.shape.cells;refine ak r rfl rfl h3 (k:=7) hs.1 br ?_;rw [←hs.2.2];exact aG.fin hB hr u5 (fun b hb=>.inl hb) (fun h=>by have:=hF _ h; omega) kw kw kw
 | act op at_ a b k=>
  obtain ⟨nf,n1,n2,hcn,rfl,hk⟩:∃ (nf:FuncId) (n1 n2:List Value),af y6 nf=true∧pv=.agg (aC false aj.zero op at_ a b (kf nf n1 n2))∧FnT y6 aj u64 n F w0 (kf nf n1 n2) k:=by
   exact Rep.dx hp
  refine enter (l:=[.agg (aC false aj.zero op at_ a b (kf nf n1 n2)),kf ff f1 f2]) Tryz.func223 rfl 15 rfl rfl fun fr r=>?_;have hB:=Below.refl w0.heap.size w0
  refine a9 (q5 ?_);refine kX 119 (.agg (aC false aj.zero op at_ a b (kf nf n1 n2))) r rfl rfl fun b1 w1 q1 r=>?_;refine kX 261 (kf ff f1 f2) r rfl rfl fun b2 w2 q2 r=>?_
  refine ah (.cells (kq aj) 119 (0,0)) r (fun R=>ag bK) rfl fun fr b3 w3 q3 r=>q9 ?_;have h1:=keep q3.below (keep q2.below q1.at_)
  have h2:=keep q3.below q2.at_;have h3:=q3.at_;have e1:=q1.eq; have e2:=q2.eq; have e3:=q3.eq; have z1:=q1.size; have z2:=q2.size; have z3:=q3.size;have hB:=((hB.trans q1.below).trans (q2.below.mono kw)).trans (q3.below.mono kw)
  have zB:=hB.size;refine a9 (a9 (q5 (aa (zp b1) r (fun R=>az r (o:=0) rfl gW) rfl fun fr r=>?_)));refine aa (.bool false) r (fun R=>av r (v:=.bool false) rfl h1 to4 rfl) rfl fun fr r=>q9 ?_
  refine q4 (t:=false) (r.ev rfl) (fun h=>by cases h) (fun _=>q6 ?_);refine a9 (q5 (aa (.pointer (some ⟨b1,2,none⟩)) r (fun R=>az r (o:=0) rfl ou) rfl fun fr r=>kG (bk (⟨op,at_,a,b⟩:Access)) 4 r rfl h1 ta38 rfl rfl fun r=>aa (.func (.func 297) #[] #[zp b1,zp b2]) r (fun R=>aZ r rfl) rfl fun fr r=>?_))
  have hF1:∀ b,(fun b=>F b∨b=b1∨b=b2) b→b<w3.heap.size:=by rintro b (h | h | h); exact q8 (hF b h) hB.size; omega; omega
  refine kC r (l8 (F:=fun b=>F b∨b=b1∨b=b2) (n:=n) hF1 ⟨op,at_,a,b⟩ (a1:=fun x=>(k x).bind g) (show FnT y6 aj u64 n (fun b=>F b∨b=b1∨b=b2) w3 (kf 297 [] [zp b1,zp b2]) (fun x=>(k x).bind g) from
   ⟨297,[],[zp b1,zp b2],Fz,rfl,fun m hm x w' hs hz=>zE (ih m hm) (fun b hb=>q8 (hF1 b hb) hz) (.inr (.inl rfl)) (hs.at_ (.inr (.inl rfl)) h1) (.inr (.inr rfl)) (hs.at_ (.inr (.inr rfl)) h2)
    (hk.mono kw (fun b h=>.inl h) ((Same.below hB hF).trans (hs.sub (fun b h=>.inl h))) (Nat.le_trans hB.size hz)) (hf.mono kw (fun b h=>.inl h) ((Same.below hB hF).trans (hs.sub (fun b h=>.inl h))) (Nat.le_trans hB.size hz)) x⟩)) rfl mg rfl ?_
  rintro _ w4 ⟨v,rfl,hb,hr⟩;refine ⟨_,rfl,fun fr r=>?_⟩
  have z4:=hb.size;have h3:=keep hb h3;have hB:=hB.trans (hb.mono hB.size);refine kP r hr.shape rfl rfl h3 bu rfl rfl fun w5 u5 r=>q9 ?_;have z5:=u5.size
  have h3:=u5.at_;have hB:=u5.below hB kw
  refine d9 ?_;have hs:=hr.shape.cells;refine ak r rfl rfl h3 (k:=7) hs.1 br ?_;rw [←hs.2.2];exact aG.fin hB hr u5 yag yav kw kw kw
theorem yK (hF:kH F w0) {t:T (Int)} {pv fv:Value} {g:Int→T (Int)} (hp:Rep y6 aj n t F w0 pv) (hf:FnT y6 aj i64 n F w0 fv g) (hd:t.bA=false) :
  Calls y6 223 #[pv,fv] w0 (aG y6 aj n (t.bind g) F w0):=sK n hF hp hf (.inl hd)
theorem p6 (hF:kH F w0) {t:T (Int)} {pv fv:Value} {g:Int→T (Int)} (hp:Rep y6 aj n t F w0 pv) (hf:FnT y6 aj i64 (n+1) F w0 fv g) :
  Calls y6 223 #[pv,fv] w0 (aG y6 aj n (t.bind g) F w0):=sK n hF hp (hf.mono kw (fun b h=>h) (Same.refl _ _) (Nat.le_refl _)) (.inr hf)
end
end Go.Proofs.YtbbipmelhmgmfaaGreat
