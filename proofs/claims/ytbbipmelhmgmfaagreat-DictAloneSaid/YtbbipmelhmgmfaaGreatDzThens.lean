/- Ours. -/
import Derived.Test.YtbbipmelhmgmfaaGreatDzM6
import Derived.Test.YtbbipmelhmgmfaaGreatDzMems
set_option linter.all false
set_option maxRecDepth 100000
set_option maxHeartbeats 20000000
namespace Go.Proofs.YtbbipmelhmgmfaaGreat
open Go.RowKit
section
variable {n : Nat} {F : Nat -> Prop} {j : Nat} {w0 : World}
theorem xL:af B0 130:=kz
theorem rY:af B0 140:=kz
theorem jd:af B0 177:=kz
theorem pg:af B0 181:=kz
theorem Hx:af B0 215:=kz
theorem Fb:af B0 220:=kz
theorem mr:af B0 223:=kz
theorem sj:af B0 228:=kz
theorem s8:af B0 274:=kz
theorem Hs:af B0 275:=kz
theorem mz:af B0 283:=kz
theorem yP:af B0 293:=kz
theorem FO:af B0 297:=kz
theorem EZ:af B0 301:=kz
theorem yw:af B0 348:=kz
theorem xw:af B0 352:=kz
theorem yz:af B0 358:=kz
theorem xp:af B0 360:=kz
theorem GQ:af B0 379:=kz
theorem Hd:af B0 385:=kz
theorem EU:af B0 386:=kz
theorem wy:ba B0 116 0 0:=kz
theorem Ep:ba B0 116 1 1:=kz
theorem DX:ba B0 116 2 4:=kz
theorem Eo:ba B0 116 3 8:=kz
theorem ij:ba B0 119 0 0:=kz
theorem oT:ba B0 119 1 1:=kz
theorem oV:ba B0 119 2 2:=kz
theorem oQ:ba B0 119 3 6:=kz
theorem eX:ba B0 133 0 0:=kz
theorem lZ:ba B0 133 2 1:=kz
theorem lY:ba B0 133 3 5:=kz
theorem wA:ba B0 271 0 0:=kz
theorem Ek:ba B0 271 1 1:=kz
theorem Ej:ba B0 271 2 2:=kz
theorem DY:ba B0 271 3 6:=kz
theorem wC:ba B0 318 0 0:=kz
theorem El:ba B0 318 1 1:=kz
theorem DP:ba B0 318 2 2:=kz
theorem Ea:ba B0 318 3 6:=kz
theorem rQ:ba B0 41 0 0:=kz
theorem EM:ba B0 41 1 1:=kz
theorem EH:ba B0 41 2 3:=kz
theorem ED:ba B0 41 3 7:=kz
theorem mq:fieldZ B0 133 1 1:=kz
theorem yA:tyA B0 113 3:=kz
theorem dO:tyA B0 116 9:=kz
theorem bu:tyA B0 119 7:=kz
theorem jc:tyA B0 128 0:=kz
theorem cT:tyA B0 133 6:=kz
theorem eK:tyA B0 271 7:=kz
theorem iy:tyA B0 318 7:=kz
theorem ta36:tyA B0 36 2:=kz
theorem KX:tyA B0 38 4:=kz
theorem Jt:tyA B0 41 8:=kz
theorem FC:tyO B0 114:=kz
theorem pd:tyO B0 117:=kz
theorem mi:tyO B0 131:=kz
theorem xU:tyO B0 207:=kz
theorem yH:tyO B0 213:=kz
theorem sH:tyO B0 233:=kz
theorem rW:tyO B0 261:=kz
theorem xR:tyO B0 265:=kz
theorem Fk:tyO B0 269:=kz
theorem sL:tyO B0 290:=kz
theorem xI:tyO B0 296:=kz
theorem Gj:tyO B0 316:=kz
theorem xB:tyO B0 324:=kz
theorem to39:tyO B0 39:=kz
theorem to4:tyO B0 4:=kz
theorem dP:sized B0 116 9:=kz
theorem bv:sized B0 119 7:=kz
theorem db:sized B0 133 6:=kz
theorem eL:sized B0 271 7:=kz
theorem iw:sized B0 318 7:=kz
theorem Ju:sized B0 41 8:=kz
theorem dX:zeroOf B0 116=some (.agg (kq bA)):=kz
theorem bP:zeroOf B0 119=some (.agg (kq aj)):=kz
theorem dF:zeroOf B0 133=some (.agg (kq aD)):=kz
theorem fj:zeroOf B0 271=some (.agg (kq bK)):=kz
theorem ku:zeroOf B0 318=some (.agg (kq cv)):=kz
theorem JD:zeroOf B0 41=some (.agg (kq aA)):=kz
def D.uz (a0:Access) (a1:(Int->T Unit)):T Unit:=(T.act a0.op a0.at_ a0.a a0.b a1)
theorem ud (hF:kH F w0)
    (a0:Access) {Ks:FuncId} {HP HQ:List Value} {a1:(Int->T Unit)} (a1n:Kq B0 aD u64 (n) F w0 (kf Ks HP HQ) a1) :
    Calls B0 293 #[z6 (bh a0),kf Ks HP HQ] w0 (aH B0 aD n (D.uz a0 a1) F w0):=by
 refine kN Tryz.func293 rfl 8 rfl rfl fun fr r hB=>?_;refine I0 ?_
 refine kX 38 (z6 (bh a0)) r rfl rfl fun b1 w2 n3 r=>?_;obtain ⟨E1,Z2,H1,hB,zB⟩:=n3.all hB
 refine ah (.cells (kq aD) 133 (0,0)) r (fun R=>ag dF) rfl fun fr b4 w5 n6 r=>?_;have H1:=keep n6.below H1
 obtain ⟨E4,Z5,H4,hB,zB⟩:=n6.all hB;refine wn (I0 (kG (bh a0) 4 r rfl H1 KX rfl rfl fun r=>kM (kf Ks HP HQ) r rfl rfl fun r=>kU (.agg (aC false aD.zero a0.op a0.at_ a0.a a0.b (kf Ks HP HQ))) r kz rfl fun r=>?_));refine aM (.cells (aC false aD.zero a0.op a0.at_ a0.a a0.b (kf Ks HP HQ)) 133 (0,0)) r (fun R=>bb r (o:=0) (v:=(.agg (aC false aD.zero a0.op a0.at_ a0.a a0.b (kf Ks HP HQ)))) rfl rfl H4 db u7 rfl rfl) rfl fun fr w7 u8 r=>?_
 have Z7:=u8.size;have H1:=u8.keep H1 O
 have H4:=u8.at_;obtain ⟨hB,zB⟩:=u8.on hB O
 refine wn (q4 ?_);refine ak r rfl rfl H4 (k:=6) rfl cT ?_;exact ⟨_,rfl,hB,Jm.iq (a1n.mono (Nat.le_refl _) (fun b hb=>.inl hb) (I8.below hB hF) hB.size)⟩
def D.nE :T Unit:=(T.done ())
theorem tR (hF:kH F w0)
     :
    Calls B0 292 #[.agg #[]] w0 (aH B0 aD n D.nE F w0):=by
 refine kN Tryz.func292 rfl 5 rfl rfl fun fr r hB=>?_;refine I0 ?_
 refine kX 128 (.agg #[]) r rfl rfl fun b1 w2 n3 r=>?_;obtain ⟨E1,Z2,H1,hB,zB⟩:=n3.all hB
 refine ah (.cells (kq aD) 133 (0,0)) r (fun R=>ag dF) rfl fun fr b4 w5 n6 r=>?_;have H1:=keep n6.below H1
 obtain ⟨E4,Z5,H4,hB,zB⟩:=n6.all hB;refine wn (I0 (kG [] 0 r rfl H1 jc rfl rfl fun r=>kU (.agg (aC true (aD.cells ()) 0 0 0 0 .nilFunc)) r kz rfl fun r=>?_));refine aM (.cells (aC true (aD.cells ()) 0 0 0 0 .nilFunc) 133 (0,0)) r (fun R=>bb r (o:=0) (v:=(.agg (aC true (aD.cells ()) 0 0 0 0 .nilFunc))) rfl rfl H4 db u7 rfl rfl) rfl fun fr w7 u8 r=>?_
 have Z7:=u8.size;have H1:=u8.keep H1 O
 have H4:=u8.at_;obtain ⟨hB,zB⟩:=u8.on hB O
 refine wn (q4 ?_);refine ak r rfl rfl H4 (k:=6) rfl cT ?_;exact ⟨_,rfl,hB,Jm.ib⟩
def D.qw (a0:IM):T IM:=(T.done a0)
def D.nS (a0:Access) (a1:(Int->T IM)):T IM:=(T.act a0.op a0.at_ a0.a a0.b a1)
def D.nU (a0:Access) (a1:(Int->T Int)):T Int:=(T.act a0.op a0.at_ a0.a a0.b a1)
theorem lz (hF:kH F w0)
    (a0:Access) {Ks:FuncId} {HP HQ:List Value} {a1:(Int->T Int)} (a1n:Kq B0 aj u64 (n) F w0 (kf Ks HP HQ) a1) :
    Calls B0 283 #[z6 (bh a0),kf Ks HP HQ] w0 (aH B0 aj n (D.nU a0 a1) F w0):=by
 refine kN Tryz.func283 rfl 8 rfl rfl fun fr r hB=>?_;refine I0 ?_
 refine kX 38 (z6 (bh a0)) r rfl rfl fun b1 w2 n3 r=>?_;obtain ⟨E1,Z2,H1,hB,zB⟩:=n3.all hB
 refine ah (.cells (kq aj) 119 (0,0)) r (fun R=>ag bP) rfl fun fr b4 w5 n6 r=>?_;have H1:=keep n6.below H1
 obtain ⟨E4,Z5,H4,hB,zB⟩:=n6.all hB;refine wn (I0 (kG (bh a0) 4 r rfl H1 KX rfl rfl fun r=>kM (kf Ks HP HQ) r rfl rfl fun r=>kU (.agg (aC false aj.zero a0.op a0.at_ a0.a a0.b (kf Ks HP HQ))) r kz rfl fun r=>?_));refine aM (.cells (aC false aj.zero a0.op a0.at_ a0.a a0.b (kf Ks HP HQ)) 119 (0,0)) r (fun R=>bb r (o:=0) (v:=(.agg (aC false aj.zero a0.op a0.at_ a0.a a0.b (kf Ks HP HQ)))) rfl rfl H4 bv u7 rfl rfl) rfl fun fr w7 u8 r=>?_
 have Z7:=u8.size;have H1:=u8.keep H1 O
 have H4:=u8.at_;obtain ⟨hB,zB⟩:=u8.on hB O
 refine wn (q4 ?_);refine ak r rfl rfl H4 (k:=7) rfl bu ?_;exact ⟨_,rfl,hB,Jm.iq (a1n.mono (Nat.le_refl _) (fun b hb=>.inl hb) (I8.below hB hF) hB.size)⟩
def D.df (a0:Int):T Int:=(T.done a0)
theorem eT (hF:kH F w0)
    (a0:Int) :
    Calls B0 222 #[.int .i64 a0] w0 (aH B0 aj n (D.df a0) F w0):=by
 refine kN Tryz.func222 rfl 5 rfl rfl fun fr r hB=>?_;refine I0 ?_
 refine ah (.cells (kq aj) 119 (0,0)) r (fun R=>ag bP) rfl fun fr b1 w2 n3 r=>?_;obtain ⟨E1,Z2,H1,hB,zB⟩:=n3.all hB
 refine wn (I0 (kM (I a0) r rfl rfl fun r=>kU (.agg (aC true (aj.cells a0) 0 0 0 0 .nilFunc)) r kz rfl fun r=>?_));refine aM (.cells (aC true (aj.cells a0) 0 0 0 0 .nilFunc) 119 (0,0)) r (fun R=>bb r (o:=0) (v:=(.agg (aC true (aj.cells a0) 0 0 0 0 .nilFunc))) rfl rfl H1 bv u7 rfl rfl) rfl fun fr w4 u5 r=>?_
 have Z4:=u5.size;have H1:=u5.at_;obtain ⟨hB,zB⟩:=u5.on hB O
 refine wn (q4 ?_);refine ak r rfl rfl H1 (k:=7) rfl bu ?_;exact ⟨_,rfl,hB,Jm.ib⟩
def D.nz (a0:IY):T IY:=(T.done a0)
theorem tH (hF:kH F w0)
    (a0:IY) :
    Calls B0 179 #[z6 (grantC a0)] w0 (aH B0 bA n (D.nz a0) F w0):=by
 refine kN Tryz.func179 rfl 5 rfl rfl fun fr r hB=>?_;refine I0 ?_
 refine kX 113 (z6 (grantC a0)) r rfl rfl fun b1 w2 n3 r=>?_;obtain ⟨E1,Z2,H1,hB,zB⟩:=n3.all hB
 refine ah (.cells (kq bA) 116 (0,0)) r (fun R=>ag dX) rfl fun fr b4 w5 n6 r=>?_;have H1:=keep n6.below H1
 obtain ⟨E4,Z5,H4,hB,zB⟩:=n6.all hB;refine wn (I0 (kG (grantC a0) 3 r rfl H1 yA rfl rfl fun r=>kU (.agg (aC true (bA.cells a0) 0 0 0 0 .nilFunc)) r kz rfl fun r=>?_));refine aM (.cells (aC true (bA.cells a0) 0 0 0 0 .nilFunc) 116 (0,0)) r (fun R=>bb r (o:=0) (v:=(.agg (aC true (bA.cells a0) 0 0 0 0 .nilFunc))) rfl rfl H4 dP u7 rfl rfl) rfl fun fr w7 u8 r=>?_
 have Z7:=u8.size;have H1:=u8.keep H1 O
 have H4:=u8.at_;obtain ⟨hB,zB⟩:=u8.on hB O
 refine wn (q4 ?_);refine ak r rfl rfl H4 (k:=9) rfl dO ?_;exact ⟨_,rfl,hB,Jm.ib⟩
def D.qq (a0:Access) (a1:(Int->T IY)):T IY:=(T.act a0.op a0.at_ a0.a a0.b a1)
theorem qi (hF:kH F w0)
    (a0:Access) {Ks:FuncId} {HP HQ:List Value} {a1:(Int->T IY)} (a1n:Kq B0 bA u64 (n) F w0 (kf Ks HP HQ) a1) :
    Calls B0 274 #[z6 (bh a0),kf Ks HP HQ] w0 (aH B0 bA n (D.qq a0 a1) F w0):=by
 refine kN Tryz.func274 rfl 8 rfl rfl fun fr r hB=>?_;refine I0 ?_
 refine kX 38 (z6 (bh a0)) r rfl rfl fun b1 w2 n3 r=>?_;obtain ⟨E1,Z2,H1,hB,zB⟩:=n3.all hB
 refine ah (.cells (kq bA) 116 (0,0)) r (fun R=>ag dX) rfl fun fr b4 w5 n6 r=>?_;have H1:=keep n6.below H1
 obtain ⟨E4,Z5,H4,hB,zB⟩:=n6.all hB;refine wn (I0 (kG (bh a0) 4 r rfl H1 KX rfl rfl fun r=>kM (kf Ks HP HQ) r rfl rfl fun r=>kU (.agg (aC false bA.zero a0.op a0.at_ a0.a a0.b (kf Ks HP HQ))) r kz rfl fun r=>?_));refine aM (.cells (aC false bA.zero a0.op a0.at_ a0.a a0.b (kf Ks HP HQ)) 116 (0,0)) r (fun R=>bb r (o:=0) (v:=(.agg (aC false bA.zero a0.op a0.at_ a0.a a0.b (kf Ks HP HQ)))) rfl rfl H4 dP u7 rfl rfl) rfl fun fr w7 u8 r=>?_
 have Z7:=u8.size;have H1:=u8.keep H1 O
 have H4:=u8.at_;obtain ⟨hB,zB⟩:=u8.on hB O
 refine wn (q4 ?_);refine ak r rfl rfl H4 (k:=9) rfl dO ?_;exact ⟨_,rfl,hB,Jm.iq (a1n.mono (Nat.le_refl _) (fun b hb=>.inl hb) (I8.below hB hF) hB.size)⟩
def D.ll (a0:Bool):T Bool:=(T.done a0)
theorem tQ (hF:kH F w0)
    (a0:Bool) :
    Calls B0 395 #[.bool a0] w0 (aH B0 cv n (D.ll a0) F w0):=by
 refine kN Tryz.func395 rfl 5 rfl rfl fun fr r hB=>?_;refine I0 ?_
 refine ah (.cells (kq cv) 318 (0,0)) r (fun R=>ag ku) rfl fun fr b1 w2 n3 r=>?_;obtain ⟨E1,Z2,H1,hB,zB⟩:=n3.all hB
 refine wn (I0 (kM (.bool a0) r rfl rfl fun r=>kU (.agg (aC true (cv.cells a0) 0 0 0 0 .nilFunc)) r kz rfl fun r=>?_));refine aM (.cells (aC true (cv.cells a0) 0 0 0 0 .nilFunc) 318 (0,0)) r (fun R=>bb r (o:=0) (v:=(.agg (aC true (cv.cells a0) 0 0 0 0 .nilFunc))) rfl rfl H1 iw u7 rfl rfl) rfl fun fr w4 u5 r=>?_
 have Z4:=u5.size;have H1:=u5.at_;obtain ⟨hB,zB⟩:=u5.on hB O
 refine wn (q4 ?_);refine ak r rfl rfl H1 (k:=7) rfl iy ?_;exact ⟨_,rfl,hB,Jm.ib⟩
def D.uE (a0:Access) (a1:(Int->T Bool)):T Bool:=(T.act a0.op a0.at_ a0.a a0.b a1)
theorem BD (hF:kH F w0)
    (a0:Access) {Ks:FuncId} {HP HQ:List Value} {a1:(Int->T Bool)} (a1n:Kq B0 cv u64 (n) F w0 (kf Ks HP HQ) a1) :
    Calls B0 400 #[z6 (bh a0),kf Ks HP HQ] w0 (aH B0 cv n (D.uE a0 a1) F w0):=by
 refine kN Tryz.func400 rfl 8 rfl rfl fun fr r hB=>?_;refine I0 ?_
 refine kX 38 (z6 (bh a0)) r rfl rfl fun b1 w2 n3 r=>?_;obtain ⟨E1,Z2,H1,hB,zB⟩:=n3.all hB
 refine ah (.cells (kq cv) 318 (0,0)) r (fun R=>ag ku) rfl fun fr b4 w5 n6 r=>?_;have H1:=keep n6.below H1
 obtain ⟨E4,Z5,H4,hB,zB⟩:=n6.all hB;refine wn (I0 (kG (bh a0) 4 r rfl H1 KX rfl rfl fun r=>kM (kf Ks HP HQ) r rfl rfl fun r=>kU (.agg (aC false cv.zero a0.op a0.at_ a0.a a0.b (kf Ks HP HQ))) r kz rfl fun r=>?_));refine aM (.cells (aC false cv.zero a0.op a0.at_ a0.a a0.b (kf Ks HP HQ)) 318 (0,0)) r (fun R=>bb r (o:=0) (v:=(.agg (aC false cv.zero a0.op a0.at_ a0.a a0.b (kf Ks HP HQ)))) rfl rfl H4 iw u7 rfl rfl) rfl fun fr w7 u8 r=>?_
 have Z7:=u8.size;have H1:=u8.keep H1 O
 have H4:=u8.at_;obtain ⟨hB,zB⟩:=u8.on hB O
 refine wn (q4 ?_);refine ak r rfl rfl H4 (k:=7) rfl iy ?_;exact ⟨_,rfl,hB,Jm.iq (a1n.mono (Nat.le_refl _) (fun b hb=>.inl hb) (I8.below hB hF) hB.size)⟩
def D.ul (a0:Access) (a1:(Int->T Int)):T Int:=(T.act a0.op a0.at_ a0.a a0.b a1)
theorem tM (hF:kH F w0)
    (a0:Access) {Ks:FuncId} {HP HQ:List Value} {a1:(Int->T Int)} (a1n:Kq B0 bK u64 (n) F w0 (kf Ks HP HQ) a1) :
    Calls B0 358 #[z6 (bh a0),kf Ks HP HQ] w0 (aH B0 bK n (D.ul a0 a1) F w0):=by
 refine kN Tryz.func358 rfl 8 rfl rfl fun fr r hB=>?_;refine I0 ?_
 refine kX 38 (z6 (bh a0)) r rfl rfl fun b1 w2 n3 r=>?_;obtain ⟨E1,Z2,H1,hB,zB⟩:=n3.all hB
 refine ah (.cells (kq bK) 271 (0,0)) r (fun R=>ag fj) rfl fun fr b4 w5 n6 r=>?_;have H1:=keep n6.below H1
 obtain ⟨E4,Z5,H4,hB,zB⟩:=n6.all hB;refine wn (I0 (kG (bh a0) 4 r rfl H1 KX rfl rfl fun r=>kM (kf Ks HP HQ) r rfl rfl fun r=>kU (.agg (aC false bK.zero a0.op a0.at_ a0.a a0.b (kf Ks HP HQ))) r kz rfl fun r=>?_));refine aM (.cells (aC false bK.zero a0.op a0.at_ a0.a a0.b (kf Ks HP HQ)) 271 (0,0)) r (fun R=>bb r (o:=0) (v:=(.agg (aC false bK.zero a0.op a0.at_ a0.a a0.b (kf Ks HP HQ)))) rfl rfl H4 eL u7 rfl rfl) rfl fun fr w7 u8 r=>?_
 have Z7:=u8.size;have H1:=u8.keep H1 O
 have H4:=u8.at_;obtain ⟨hB,zB⟩:=u8.on hB O
 refine wn (q4 ?_);refine ak r rfl rfl H4 (k:=7) rfl eK ?_;exact ⟨_,rfl,hB,Jm.iq (a1n.mono (Nat.le_refl _) (fun b hb=>.inl hb) (I8.below hB hF) hB.size)⟩
def D.ld (a0:Int):T Int:=(T.done a0)
theorem tD (hF:kH F w0)
    (a0:Int) :
    Calls B0 359 #[.int .u64 a0] w0 (aH B0 bK n (D.ld a0) F w0):=by
 refine kN Tryz.func359 rfl 5 rfl rfl fun fr r hB=>?_;refine I0 ?_
 refine ah (.cells (kq bK) 271 (0,0)) r (fun R=>ag fj) rfl fun fr b1 w2 n3 r=>?_;obtain ⟨E1,Z2,H1,hB,zB⟩:=n3.all hB
 refine wn (I0 (kM (U a0) r rfl rfl fun r=>kU (.agg (aC true (bK.cells a0) 0 0 0 0 .nilFunc)) r kz rfl fun r=>?_));refine aM (.cells (aC true (bK.cells a0) 0 0 0 0 .nilFunc) 271 (0,0)) r (fun R=>bb r (o:=0) (v:=(.agg (aC true (bK.cells a0) 0 0 0 0 .nilFunc))) rfl rfl H1 eL u7 rfl rfl) rfl fun fr w4 u5 r=>?_
 have Z4:=u5.size;have H1:=u5.at_;obtain ⟨hB,zB⟩:=u5.on hB O
 refine wn (q4 ?_);refine ak r rfl rfl H1 (k:=7) rfl eK ?_;exact ⟨_,rfl,hB,Jm.ib⟩
def sZ (n:Nat):Prop:=∀ {F:Nat->Prop} {w0:World},(∀ b,F b->b<w0.heap.size)->∀ {t:T (Bool)} {pv fv:Value} {g:Bool->T (Int)},Jm B0 cv n t F w0 pv->Kq B0 aj aF n F w0 fv g->
  (t.bC=false\/Kq B0 aj aF (n+1) F w0 fv g)->Calls B0 348 #[pv,fv] w0 (aH B0 aj n (t.bind g) F w0)
theorem A0 {n:Nat} (ih:sZ n) {F:Nat->Prop} {w0:World} (hF:∀ b,F b->b<w0.heap.size) {op at_ a b:Int} {nf:FuncId} {n1 n2:List Value} {k:Int->T (Bool)} {ff:FuncId} {f1 f2:List Value} {g:Bool->T (Int)}
    {b1 b2:Nat} (F1:F b1) (h1:w0.heap[b1]?=some (.cells (aC false cv.zero op at_ a b (kf nf n1 n2)) 318 (0,0))) (F2:F b2) (h2:w0.heap[b2]?=some (.cells #[kf ff f1 f2] 290 (0,0)))
    (hk:Kq B0 cv u64 (n+1) F w0 (kf nf n1 n2) k) (hg:Kq B0 aj aF (n+1) F w0 (kf ff f1 f2) g) (x:Int) :
    Calls B0 379 #[.int .u64 x,zp b1,zp b2] w0 (aH B0 aj n ((k x).bind g) F w0):=by
 refine kN Tryz.func379 rfl 11 rfl rfl fun fr r hB=>?_;refine d9 (q6 ?_)
 refine ah (.cells (kq aj) 119 (0,0)) r (fun R=>ag bP) rfl fun fr b3 w1 q1 r=>wn ?_;have h1:=keep q1.below h1
 have h2:=keep q1.below h2;have e3:=q1.eq;have z1:=q1.size;have h3:=q1.at_;have hB:=hB.trans (q1.below.mono hB.size);have zB:=hB.size;refine d9 ?_;refine bI 5 [.val (.pointer (some ⟨b1,6,none⟩)),.val (kf nf n1 n2),.val (U x),.pred (Ke B0 cv n (k x) F w0.heap.size b3) Ke.stable,.val (kf ff f1 f2)] mixed r kz (ct trivial (ct trivial (ct trivial (ct trivial (ct trivial bH))))) ?_ ?_
 ·
  refine ec r (fun _ u _ b d s=>az s (b:=b1) (o:=0) rfl Ea bz) ?_;refine dA r rfl (fun I2 u w' hb' hd r'=>?_) ?_
  ·
   obtain ⟨d0,_⟩:=hd;exact ax r' (v:=kf nf n1 n2) d0 (keep hb' h1) Gj rfl bz
  refine ec r (fun _ u _ b d s=>aw s rfl bz) ?_;refine dA r rfl (fun I2 u w' hb' hd r'=>?_) ?_
  ·
   obtain ⟨d0,d1,_⟩:=hd;have zb:=hb'.size;have zb:w1.heap.size<=w'.heap.size:=zb;have hB':Below w0.heap.size w0 w':=hB.trans (Below.mono (w:=w1) ⟨hb'.os,hb'.tape,hb'.output,hb'.size,hb'.block⟩ hB.size);have d0:u 1=kf nf n1 n2:=d0;have d1:u 2=.int .u64 x:=d1;refine dM r' (fs:=n1) (cs:=n2) d0 d1 hk.at_.1 ((hk.at_.2 n (Nat.lt_succ_self n) x w' (I8.below hB' hF) hB'.size).mono ?_);rintro _ w2 ⟨v,rfl,hb2,Jz⟩;refine ⟨v,rfl,hb2,Ke.m7 (fun b h=>q9 (hF b h) hB'.size) O hB'.size hb2 (Jm.mono ?_ (I8.refl _ _) (Nat.le_refl _) n _ _ Jz)⟩
   rintro b (h | h)
   · exact .inl (.inl h)
   · exact .inr h
  refine ec r (fun _ u _ b d s=>ax s rfl (keep b h2) sL rfl bz) ?_;exact bJ
 intro fr u w2 hb Iz _ r;obtain ⟨_,hr3,_,hr⟩:Ke B0 cv n (k x) F w0.heap.size b3 (u 3) w2:=Iz 3 ke;have r:=r.congr (sc (Iz 4 ke) rfl);have z2:=hb.size;have h1:=keep hb h1;have h2:=keep hb h2;have h3:=keep hb h3;have hB2:=hB.trans (hb.mono hB.size);have zB2:=hB2.size;have I4:∀ b,(kW F w0 w2 b3) b->b<w2.heap.size:=by rintro b (h | h); exact q9 (hF b h) hB2.size; exact h.2.1
 refine kC r (ih (F:=fun b=>F b\/(w0.heap.size<=b/\b<w2.heap.size/\b≠b3)) I4 hr (hg.mono O (fun b h=>.inl h) (I8.below hB2 hF) hB2.size)
  (.inr (hg.mono (Nat.le_refl _) (fun b h=>.inl h) (I8.below hB2 hF) hB2.size))) rfl yw rfl ?_
 rintro _ w3 ⟨v2,rfl,hb2,Jz⟩;refine ⟨_,rfl,fun fr r=>?_⟩
 have z3:=hb2.size;have h3:=keep hb2 h3;have hB3:=hB2.trans (hb2.mono hB2.size);refine kP r Jz.shape rfl rfl h3 bv rfl rfl fun w4 u4 r=>wn ?_;have z4:=u4.size
 have h3:=u4.at_;have hB4:=u4.below hB3 O
 refine q4 ?_;have hs:=Jz.shape.cells;refine ak r rfl rfl h3 (k:=7) hs.1 bu ?_;rw [<-hs.2.2];exact aH.fin hB4 Jz u4 yac Kl O O O
theorem zY (n:Nat):sZ n:=by
 induction n using Nat.strongRecOn with
 | _ n ih=>
 intro F w0 hF t pv fv g hp hf hd;obtain ⟨ff,f1,f2,hcf,rfl,hff⟩:=id hf;cases t with
 | cut=>unfold Jm at hp; exact hp.elim
 | done x0=>
  have hf:=hd.resolve_left yaA
  unfold Jm at hp
  subst hp;refine enter (l:=[.agg (aC true (cv.cells x0) 0 0 0 0 .nilFunc),kf ff f1 f2]) Tryz.func348 rfl 15 rfl rfl fun fr r=>?_;have hB:=Below.refl w0.heap.size w0
  refine d9 (q6 ?_);refine kX 318 (.agg (aC true (cv.cells x0) 0 0 0 0 .nilFunc)) r rfl rfl fun b1 w1 q1 r=>?_;refine kX 290 (kf ff f1 f2) r rfl rfl fun b2 w2 q2 r=>?_
  refine ah (.cells (kq aj) 119 (0,0)) r (fun R=>ag bP) rfl fun fr b3 w3 q3 r=>r9 ?_;have h1:=keep q3.below (keep q2.below q1.at_)
  have h2:=keep q3.below q2.at_;have h3:=q3.at_;have e1:=q1.eq; have e2:=q2.eq; have e3:=q3.eq; have z1:=q1.size; have z2:=q2.size; have z3:=q3.size;have hB:=((hB.trans q1.below).trans (q2.below.mono O)).trans (q3.below.mono O)
  have zB:=hB.size;refine d9 (d9 (q6 (aa (zp b1) r (fun R=>az r (o:=0) rfl wC) rfl fun fr r=>?_)));refine aa (.bool true) r (fun R=>ax r (v:=.bool true) rfl h1 to4 rfl) rfl fun fr r=>r9 ?_
  refine q5 (t:=true) (r.ev rfl) (fun _=>?_) (fun h=>by cases h)
  refine d9 (q6 (aa (kf ff f1 f2) r (fun R=>ax r (v:=kf ff f1 f2) rfl h2 sL rfl) rfl fun fr r=>aa (.pointer (some ⟨b1,1,none⟩)) r (fun R=>az r (o:=0) rfl El) rfl fun fr r=>aa (.bool x0) r (fun R=>ax r (v:=(.bool x0)) rfl h1 to4 rfl) rfl fun fr r=>?_));refine cS r (hf.at_.2 n (Nat.lt_succ_self n) x0 w3 (I8.below hB hF) hB.size) (fun R hc=>eu r rfl rfl hf.at_.1 hc) rfl ?_
  rintro _ w4 ⟨v,rfl,hb,hr⟩;refine ⟨_,rfl,fun fr r=>?_⟩
  have z4:=hb.size;have h3:=keep hb h3;have hB:=hB.trans (hb.mono hB.size);refine kP r hr.shape rfl rfl h3 bv rfl rfl fun w5 u5 r=>r9 ?_;have z5:=u5.size
  have h3:=u5.at_;have hB:=u5.below hB O
  refine q4 ?_;have hs:=hr.shape.cells;refine ak r rfl rfl h3 (k:=7) hs.1 bu ?_;rw [<-hs.2.2];exact aH.fin hB hr u5 (fun b hb=>.inl hb) (fun h=>by have:=hF _ h; omega) O O O
 | act op at_ a b k=>
  obtain ⟨nf,n1,n2,hcn,rfl,hk⟩:∃ (nf:FuncId) (n1 n2:List Value),af B0 nf=true/\pv=.agg (aC false cv.zero op at_ a b (kf nf n1 n2))/\Kq B0 cv u64 n F w0 (kf nf n1 n2) k:=by
   exact Jm.dD hp
  refine enter (l:=[.agg (aC false cv.zero op at_ a b (kf nf n1 n2)),kf ff f1 f2]) Tryz.func348 rfl 15 rfl rfl fun fr r=>?_;have hB:=Below.refl w0.heap.size w0
  refine d9 (q6 ?_);refine kX 318 (.agg (aC false cv.zero op at_ a b (kf nf n1 n2))) r rfl rfl fun b1 w1 q1 r=>?_;refine kX 290 (kf ff f1 f2) r rfl rfl fun b2 w2 q2 r=>?_
  refine ah (.cells (kq aj) 119 (0,0)) r (fun R=>ag bP) rfl fun fr b3 w3 q3 r=>r9 ?_;have h1:=keep q3.below (keep q2.below q1.at_)
  have h2:=keep q3.below q2.at_;have h3:=q3.at_;have e1:=q1.eq; have e2:=q2.eq; have e3:=q3.eq; have z1:=q1.size; have z2:=q2.size; have z3:=q3.size;have hB:=((hB.trans q1.below).trans (q2.below.mono O)).trans (q3.below.mono O)
  have zB:=hB.size;refine d9 (d9 (q6 (aa (zp b1) r (fun R=>az r (o:=0) rfl wC) rfl fun fr r=>?_)));refine aa (.bool false) r (fun R=>ax r (v:=.bool false) rfl h1 to4 rfl) rfl fun fr r=>r9 ?_
  refine q5 (t:=false) (r.ev rfl) (fun h=>by cases h) (fun _=>q7 ?_);refine d9 (q6 (aa (.pointer (some ⟨b1,2,none⟩)) r (fun R=>az r (o:=0) rfl DP) rfl fun fr r=>kG (bh (⟨op,at_,a,b⟩:Access)) 4 r rfl h1 KX rfl rfl fun r=>aa (.func (.func 379) #[] #[zp b1,zp b2]) r (fun R=>aZ r rfl) rfl fun fr r=>?_))
  have I4:∀ b,(fun b=>F b\/b=b1\/b=b2) b->b<w3.heap.size:=by rintro b (h | h | h); exact q9 (hF b h) hB.size; omega; omega
  refine kC r (lz (F:=fun b=>F b\/b=b1\/b=b2) (n:=n) I4 ⟨op,at_,a,b⟩ (a1:=fun x=>(k x).bind g) (show Kq B0 aj u64 n (fun b=>F b\/b=b1\/b=b2) w3 (kf 379 [] [zp b1,zp b2]) (fun x=>(k x).bind g) from
   ⟨379,[],[zp b1,zp b2],GQ,rfl,fun m hm x w' hs hz=>A0 (ih m hm) (fun b hb=>q9 (I4 b hb) hz) (.inr (.inl rfl)) (hs.at_ (.inr (.inl rfl)) h1) (.inr (.inr rfl)) (hs.at_ (.inr (.inr rfl)) h2)
    (hk.mono O (fun b h=>.inl h) ((I8.below hB hF).trans (hs.sub (fun b h=>.inl h))) (Nat.le_trans hB.size hz)) (hf.mono O (fun b h=>.inl h) ((I8.below hB hF).trans (hs.sub (fun b h=>.inl h))) (Nat.le_trans hB.size hz)) x⟩)) rfl mz rfl ?_
  rintro _ w4 ⟨v,rfl,hb,hr⟩;refine ⟨_,rfl,fun fr r=>?_⟩
  have z4:=hb.size;have h3:=keep hb h3;have hB:=hB.trans (hb.mono hB.size);refine kP r hr.shape rfl rfl h3 bv rfl rfl fun w5 u5 r=>r9 ?_;have z5:=u5.size
  have h3:=u5.at_;have hB:=u5.below hB O
  refine q4 ?_;have hs:=hr.shape.cells;refine ak r rfl rfl h3 (k:=7) hs.1 bu ?_;rw [<-hs.2.2];exact aH.fin hB hr u5 yaf yaw O O O
theorem zl (hF:kH F w0) {t:T (Bool)} {pv fv:Value} {g:Bool->T (Int)} (hp:Jm B0 cv n t F w0 pv) (hf:Kq B0 aj aF (n+1) F w0 fv g) :
  Calls B0 348 #[pv,fv] w0 (aH B0 aj n (t.bind g) F w0):=zY n hF hp (hf.mono O (fun b h=>h) (I8.refl _ _) (Nat.le_refl _)) (.inr hf)
def sS (n:Nat):Prop:=∀ {F:Nat->Prop} {w0:World},(∀ b,F b->b<w0.heap.size)->∀ {t:T (Unit)} {pv fv:Value} {g:Unit->T (Unit)},Jm B0 aD n t F w0 pv->Kq B0 aD noneE n F w0 fv g->
  (t.bC=false\/Kq B0 aD noneE (n+1) F w0 fv g)->Calls B0 352 #[pv,fv] w0 (aH B0 aD n (t.bind g) F w0)
theorem zF {n:Nat} (ih:sS n) {F:Nat->Prop} {w0:World} (hF:∀ b,F b->b<w0.heap.size) {op at_ a b:Int} {nf:FuncId} {n1 n2:List Value} {k:Int->T (Unit)} {ff:FuncId} {f1 f2:List Value} {g:Unit->T (Unit)}
    {b1 b2:Nat} (F1:F b1) (h1:w0.heap[b1]?=some (.cells (aC false aD.zero op at_ a b (kf nf n1 n2)) 133 (0,0))) (F2:F b2) (h2:w0.heap[b2]?=some (.cells #[kf ff f1 f2] 296 (0,0)))
    (hk:Kq B0 aD u64 (n+1) F w0 (kf nf n1 n2) k) (hg:Kq B0 aD noneE (n+1) F w0 (kf ff f1 f2) g) (x:Int) :
    Calls B0 385 #[.int .u64 x,zp b1,zp b2] w0 (aH B0 aD n ((k x).bind g) F w0):=by
 refine kN Tryz.func385 rfl 11 rfl rfl fun fr r hB=>?_;refine d9 (q6 ?_)
 refine ah (.cells (kq aD) 133 (0,0)) r (fun R=>ag dF) rfl fun fr b3 w1 q1 r=>wn ?_;have h1:=keep q1.below h1
 have h2:=keep q1.below h2;have e3:=q1.eq;have z1:=q1.size;have h3:=q1.at_;have hB:=hB.trans (q1.below.mono hB.size);have zB:=hB.size;refine d9 ?_;refine bI 5 [.val (.pointer (some ⟨b1,5,none⟩)),.val (kf nf n1 n2),.val (U x),.pred (Ke B0 aD n (k x) F w0.heap.size b3) Ke.stable,.val (kf ff f1 f2)] mixed r kz (ct trivial (ct trivial (ct trivial (ct trivial (ct trivial bH))))) ?_ ?_
 ·
  refine ec r (fun _ u _ b d s=>az s (b:=b1) (o:=0) rfl lY bz) ?_;refine dA r rfl (fun I2 u w' hb' hd r'=>?_) ?_
  ·
   obtain ⟨d0,_⟩:=hd;exact ax r' (v:=kf nf n1 n2) d0 (keep hb' h1) mi rfl bz
  refine ec r (fun _ u _ b d s=>aw s rfl bz) ?_;refine dA r rfl (fun I2 u w' hb' hd r'=>?_) ?_
  ·
   obtain ⟨d0,d1,_⟩:=hd;have zb:=hb'.size;have zb:w1.heap.size<=w'.heap.size:=zb;have hB':Below w0.heap.size w0 w':=hB.trans (Below.mono (w:=w1) ⟨hb'.os,hb'.tape,hb'.output,hb'.size,hb'.block⟩ hB.size);have d0:u 1=kf nf n1 n2:=d0;have d1:u 2=.int .u64 x:=d1;refine dM r' (fs:=n1) (cs:=n2) d0 d1 hk.at_.1 ((hk.at_.2 n (Nat.lt_succ_self n) x w' (I8.below hB' hF) hB'.size).mono ?_);rintro _ w2 ⟨v,rfl,hb2,Jz⟩;refine ⟨v,rfl,hb2,Ke.m7 (fun b h=>q9 (hF b h) hB'.size) O hB'.size hb2 (Jm.mono ?_ (I8.refl _ _) (Nat.le_refl _) n _ _ Jz)⟩
   rintro b (h | h)
   · exact .inl (.inl h)
   · exact .inr h
  refine ec r (fun _ u _ b d s=>ax s rfl (keep b h2) xI rfl bz) ?_;exact bJ
 intro fr u w2 hb Iz _ r;obtain ⟨_,hr3,_,hr⟩:Ke B0 aD n (k x) F w0.heap.size b3 (u 3) w2:=Iz 3 ke;have r:=r.congr (sc (Iz 4 ke) rfl);have z2:=hb.size;have h1:=keep hb h1;have h2:=keep hb h2;have h3:=keep hb h3;have hB2:=hB.trans (hb.mono hB.size);have zB2:=hB2.size;have I4:∀ b,(kW F w0 w2 b3) b->b<w2.heap.size:=by rintro b (h | h); exact q9 (hF b h) hB2.size; exact h.2.1
 refine kC r (ih (F:=fun b=>F b\/(w0.heap.size<=b/\b<w2.heap.size/\b≠b3)) I4 hr (hg.mono O (fun b h=>.inl h) (I8.below hB2 hF) hB2.size)
  (.inr (hg.mono (Nat.le_refl _) (fun b h=>.inl h) (I8.below hB2 hF) hB2.size))) rfl xw rfl ?_
 rintro _ w3 ⟨v2,rfl,hb2,Jz⟩;refine ⟨_,rfl,fun fr r=>?_⟩
 have z3:=hb2.size;have h3:=keep hb2 h3;have hB3:=hB2.trans (hb2.mono hB2.size);refine kP r Jz.shape rfl rfl h3 db rfl rfl fun w4 u4 r=>wn ?_;have z4:=u4.size
 have h3:=u4.at_;have hB4:=u4.below hB3 O
 refine q4 ?_;have hs:=Jz.shape.cells;refine ak r rfl rfl h3 (k:=6) hs.1 cT ?_;rw [<-hs.2.2];exact aH.fin hB4 Jz u4 yac Kl O O O
theorem zJ (n:Nat):sS n:=by
 induction n using Nat.strongRecOn with
 | _ n ih=>
 intro F w0 hF t pv fv g hp hf hd;obtain ⟨ff,f1,f2,hcf,rfl,hff⟩:=id hf;cases t with
 | cut=>unfold Jm at hp; exact hp.elim
 | done x0=>
  have hf:=hd.resolve_left yaA
  unfold Jm at hp
  subst hp;refine enter (l:=[.agg (aC true (aD.cells x0) 0 0 0 0 .nilFunc),kf ff f1 f2]) Tryz.func352 rfl 15 rfl rfl fun fr r=>?_;have hB:=Below.refl w0.heap.size w0
  refine d9 (q6 ?_);refine kX 133 (.agg (aC true (aD.cells x0) 0 0 0 0 .nilFunc)) r rfl rfl fun b1 w1 q1 r=>?_;refine kX 296 (kf ff f1 f2) r rfl rfl fun b2 w2 q2 r=>?_
  refine ah (.cells (kq aD) 133 (0,0)) r (fun R=>ag dF) rfl fun fr b3 w3 q3 r=>r9 ?_;have h1:=keep q3.below (keep q2.below q1.at_)
  have h2:=keep q3.below q2.at_;have h3:=q3.at_;have e1:=q1.eq; have e2:=q2.eq; have e3:=q3.eq; have z1:=q1.size; have z2:=q2.size; have z3:=q3.size;have hB:=((hB.trans q1.below).trans (q2.below.mono O)).trans (q3.below.mono O)
  have zB:=hB.size;refine d9 (d9 (q6 (aa (zp b1) r (fun R=>az r (o:=0) rfl eX) rfl fun fr r=>?_)));refine aa (.bool true) r (fun R=>ax r (v:=.bool true) rfl h1 to4 rfl) rfl fun fr r=>r9 ?_
  refine q5 (t:=true) (r.ev rfl) (fun _=>?_) (fun h=>by cases h)
  refine d9 (q6 (aa (kf ff f1 f2) r (fun R=>ax r (v:=kf ff f1 f2) rfl h2 xI rfl) rfl fun fr r=>?_));refine oD b1 1 r (fun R=>lD r rfl mq h1) rfl fun fr sp r=>aa (.agg #[]) r (fun R=>lJ r rfl jc) rfl fun fr r=>?_
  refine cS r (hf.at_.2 n (Nat.lt_succ_self n) x0 w3 (I8.below hB hF) hB.size) (fun R hc=>eu r rfl rfl hf.at_.1 hc) rfl ?_;rintro _ w4 ⟨v,rfl,hb,hr⟩
  refine ⟨_,rfl,fun fr r=>?_⟩
  have z4:=hb.size;have h3:=keep hb h3;have hB:=hB.trans (hb.mono hB.size);refine kP r hr.shape rfl rfl h3 db rfl rfl fun w5 u5 r=>r9 ?_;have z5:=u5.size
  have h3:=u5.at_;have hB:=u5.below hB O
  refine q4 ?_;have hs:=hr.shape.cells;refine ak r rfl rfl h3 (k:=6) hs.1 cT ?_;rw [<-hs.2.2];exact aH.fin hB hr u5 (fun b hb=>.inl hb) (fun h=>by have:=hF _ h; omega) O O O
 | act op at_ a b k=>
  obtain ⟨nf,n1,n2,hcn,rfl,hk⟩:∃ (nf:FuncId) (n1 n2:List Value),af B0 nf=true/\pv=.agg (aC false aD.zero op at_ a b (kf nf n1 n2))/\Kq B0 aD u64 n F w0 (kf nf n1 n2) k:=by
   exact Jm.dD hp
  refine enter (l:=[.agg (aC false aD.zero op at_ a b (kf nf n1 n2)),kf ff f1 f2]) Tryz.func352 rfl 15 rfl rfl fun fr r=>?_;have hB:=Below.refl w0.heap.size w0
  refine d9 (q6 ?_);refine kX 133 (.agg (aC false aD.zero op at_ a b (kf nf n1 n2))) r rfl rfl fun b1 w1 q1 r=>?_;refine kX 296 (kf ff f1 f2) r rfl rfl fun b2 w2 q2 r=>?_
  refine ah (.cells (kq aD) 133 (0,0)) r (fun R=>ag dF) rfl fun fr b3 w3 q3 r=>r9 ?_;have h1:=keep q3.below (keep q2.below q1.at_)
  have h2:=keep q3.below q2.at_;have h3:=q3.at_;have e1:=q1.eq; have e2:=q2.eq; have e3:=q3.eq; have z1:=q1.size; have z2:=q2.size; have z3:=q3.size;have hB:=((hB.trans q1.below).trans (q2.below.mono O)).trans (q3.below.mono O)
  have zB:=hB.size;refine d9 (d9 (q6 (aa (zp b1) r (fun R=>az r (o:=0) rfl eX) rfl fun fr r=>?_)));refine aa (.bool false) r (fun R=>ax r (v:=.bool false) rfl h1 to4 rfl) rfl fun fr r=>r9 ?_
  refine q5 (t:=false) (r.ev rfl) (fun h=>by cases h) (fun _=>q7 ?_);refine d9 (q6 (aa (.pointer (some ⟨b1,1,none⟩)) r (fun R=>az r (o:=0) rfl lZ) rfl fun fr r=>kG (bh (⟨op,at_,a,b⟩:Access)) 4 r rfl h1 KX rfl rfl fun r=>aa (.func (.func 385) #[] #[zp b1,zp b2]) r (fun R=>aZ r rfl) rfl fun fr r=>?_))
  have I4:∀ b,(fun b=>F b\/b=b1\/b=b2) b->b<w3.heap.size:=by rintro b (h | h | h); exact q9 (hF b h) hB.size; omega; omega
  refine kC r (ud (F:=fun b=>F b\/b=b1\/b=b2) (n:=n) I4 ⟨op,at_,a,b⟩ (a1:=fun x=>(k x).bind g) (show Kq B0 aD u64 n (fun b=>F b\/b=b1\/b=b2) w3 (kf 385 [] [zp b1,zp b2]) (fun x=>(k x).bind g) from
   ⟨385,[],[zp b1,zp b2],Hd,rfl,fun m hm x w' hs hz=>zF (ih m hm) (fun b hb=>q9 (I4 b hb) hz) (.inr (.inl rfl)) (hs.at_ (.inr (.inl rfl)) h1) (.inr (.inr rfl)) (hs.at_ (.inr (.inr rfl)) h2)
    (hk.mono O (fun b h=>.inl h) ((I8.below hB hF).trans (hs.sub (fun b h=>.inl h))) (Nat.le_trans hB.size hz)) (hf.mono O (fun b h=>.inl h) ((I8.below hB hF).trans (hs.sub (fun b h=>.inl h))) (Nat.le_trans hB.size hz)) x⟩)) rfl yP rfl ?_
  rintro _ w4 ⟨v,rfl,hb,hr⟩;refine ⟨_,rfl,fun fr r=>?_⟩
  have z4:=hb.size;have h3:=keep hb h3;have hB:=hB.trans (hb.mono hB.size);refine kP r hr.shape rfl rfl h3 db rfl rfl fun w5 u5 r=>r9 ?_;have z5:=u5.size
  have h3:=u5.at_;have hB:=u5.below hB O
  refine q4 ?_;have hs:=hr.shape.cells;refine ak r rfl rfl h3 (k:=6) hs.1 cT ?_;rw [<-hs.2.2];exact aH.fin hB hr u5 yaf yaw O O O
theorem zg (hF:kH F w0) {t:T (Unit)} {pv fv:Value} {g:Unit->T (Unit)} (hp:Jm B0 aD n t F w0 pv) (hf:Kq B0 aD noneE n F w0 fv g) (hd:t.bC=false) :
  Calls B0 352 #[pv,fv] w0 (aH B0 aD n (t.bind g) F w0):=zJ n hF hp hf (.inl hd)
def sO (n:Nat):Prop:=∀ {F:Nat->Prop} {w0:World},(∀ b,F b->b<w0.heap.size)->∀ {t:T (Unit)} {pv fv:Value} {g:Unit->T (Int)},Jm B0 aD n t F w0 pv->Kq B0 bK noneE n F w0 fv g->
  (t.bC=false\/Kq B0 bK noneE (n+1) F w0 fv g)->Calls B0 360 #[pv,fv] w0 (aH B0 bK n (t.bind g) F w0)
theorem zk {n:Nat} (ih:sO n) {F:Nat->Prop} {w0:World} (hF:∀ b,F b->b<w0.heap.size) {op at_ a b:Int} {nf:FuncId} {n1 n2:List Value} {k:Int->T (Unit)} {ff:FuncId} {f1 f2:List Value} {g:Unit->T (Int)}
    {b1 b2:Nat} (F1:F b1) (h1:w0.heap[b1]?=some (.cells (aC false aD.zero op at_ a b (kf nf n1 n2)) 133 (0,0))) (F2:F b2) (h2:w0.heap[b2]?=some (.cells #[kf ff f1 f2] 324 (0,0)))
    (hk:Kq B0 aD u64 (n+1) F w0 (kf nf n1 n2) k) (hg:Kq B0 bK noneE (n+1) F w0 (kf ff f1 f2) g) (x:Int) :
    Calls B0 386 #[.int .u64 x,zp b1,zp b2] w0 (aH B0 bK n ((k x).bind g) F w0):=by
 refine kN Tryz.func386 rfl 11 rfl rfl fun fr r hB=>?_;refine d9 (q6 ?_)
 refine ah (.cells (kq bK) 271 (0,0)) r (fun R=>ag fj) rfl fun fr b3 w1 q1 r=>wn ?_;have h1:=keep q1.below h1
 have h2:=keep q1.below h2;have e3:=q1.eq;have z1:=q1.size;have h3:=q1.at_;have hB:=hB.trans (q1.below.mono hB.size);have zB:=hB.size;refine d9 ?_;refine bI 5 [.val (.pointer (some ⟨b1,5,none⟩)),.val (kf nf n1 n2),.val (U x),.pred (Ke B0 aD n (k x) F w0.heap.size b3) Ke.stable,.val (kf ff f1 f2)] mixed r kz (ct trivial (ct trivial (ct trivial (ct trivial (ct trivial bH))))) ?_ ?_
 ·
  refine ec r (fun _ u _ b d s=>az s (b:=b1) (o:=0) rfl lY bz) ?_;refine dA r rfl (fun I2 u w' hb' hd r'=>?_) ?_
  ·
   obtain ⟨d0,_⟩:=hd;exact ax r' (v:=kf nf n1 n2) d0 (keep hb' h1) mi rfl bz
  refine ec r (fun _ u _ b d s=>aw s rfl bz) ?_;refine dA r rfl (fun I2 u w' hb' hd r'=>?_) ?_
  ·
   obtain ⟨d0,d1,_⟩:=hd;have zb:=hb'.size;have zb:w1.heap.size<=w'.heap.size:=zb;have hB':Below w0.heap.size w0 w':=hB.trans (Below.mono (w:=w1) ⟨hb'.os,hb'.tape,hb'.output,hb'.size,hb'.block⟩ hB.size);have d0:u 1=kf nf n1 n2:=d0;have d1:u 2=.int .u64 x:=d1;refine dM r' (fs:=n1) (cs:=n2) d0 d1 hk.at_.1 ((hk.at_.2 n (Nat.lt_succ_self n) x w' (I8.below hB' hF) hB'.size).mono ?_);rintro _ w2 ⟨v,rfl,hb2,Jz⟩;refine ⟨v,rfl,hb2,Ke.m7 (fun b h=>q9 (hF b h) hB'.size) O hB'.size hb2 (Jm.mono ?_ (I8.refl _ _) (Nat.le_refl _) n _ _ Jz)⟩
   rintro b (h | h)
   · exact .inl (.inl h)
   · exact .inr h
  refine ec r (fun _ u _ b d s=>ax s rfl (keep b h2) xB rfl bz) ?_;exact bJ
 intro fr u w2 hb Iz _ r;obtain ⟨_,hr3,_,hr⟩:Ke B0 aD n (k x) F w0.heap.size b3 (u 3) w2:=Iz 3 ke;have r:=r.congr (sc (Iz 4 ke) rfl);have z2:=hb.size;have h1:=keep hb h1;have h2:=keep hb h2;have h3:=keep hb h3;have hB2:=hB.trans (hb.mono hB.size);have zB2:=hB2.size;have I4:∀ b,(kW F w0 w2 b3) b->b<w2.heap.size:=by rintro b (h | h); exact q9 (hF b h) hB2.size; exact h.2.1
 refine kC r (ih (F:=fun b=>F b\/(w0.heap.size<=b/\b<w2.heap.size/\b≠b3)) I4 hr (hg.mono O (fun b h=>.inl h) (I8.below hB2 hF) hB2.size)
  (.inr (hg.mono (Nat.le_refl _) (fun b h=>.inl h) (I8.below hB2 hF) hB2.size))) rfl xp rfl ?_
 rintro _ w3 ⟨v2,rfl,hb2,Jz⟩;refine ⟨_,rfl,fun fr r=>?_⟩
 have z3:=hb2.size;have h3:=keep hb2 h3;have hB3:=hB2.trans (hb2.mono hB2.size);refine kP r Jz.shape rfl rfl h3 eL rfl rfl fun w4 u4 r=>wn ?_;have z4:=u4.size
 have h3:=u4.at_;have hB4:=u4.below hB3 O
 refine q4 ?_;have hs:=Jz.shape.cells;refine ak r rfl rfl h3 (k:=7) hs.1 eK ?_;rw [<-hs.2.2];exact aH.fin hB4 Jz u4 yac Kl O O O
theorem zq (n:Nat):sO n:=by
 induction n using Nat.strongRecOn with
 | _ n ih=>
 intro F w0 hF t pv fv g hp hf hd;obtain ⟨ff,f1,f2,hcf,rfl,hff⟩:=id hf;cases t with
 | cut=>unfold Jm at hp; exact hp.elim
 | done x0=>
  have hf:=hd.resolve_left yaA
  unfold Jm at hp
  subst hp;refine enter (l:=[.agg (aC true (aD.cells x0) 0 0 0 0 .nilFunc),kf ff f1 f2]) Tryz.func360 rfl 15 rfl rfl fun fr r=>?_;have hB:=Below.refl w0.heap.size w0
  refine d9 (q6 ?_);refine kX 133 (.agg (aC true (aD.cells x0) 0 0 0 0 .nilFunc)) r rfl rfl fun b1 w1 q1 r=>?_;refine kX 324 (kf ff f1 f2) r rfl rfl fun b2 w2 q2 r=>?_
  refine ah (.cells (kq bK) 271 (0,0)) r (fun R=>ag fj) rfl fun fr b3 w3 q3 r=>r9 ?_;have h1:=keep q3.below (keep q2.below q1.at_)
  have h2:=keep q3.below q2.at_;have h3:=q3.at_;have e1:=q1.eq; have e2:=q2.eq; have e3:=q3.eq; have z1:=q1.size; have z2:=q2.size; have z3:=q3.size;have hB:=((hB.trans q1.below).trans (q2.below.mono O)).trans (q3.below.mono O)
  have zB:=hB.size;refine d9 (d9 (q6 (aa (zp b1) r (fun R=>az r (o:=0) rfl eX) rfl fun fr r=>?_)));refine aa (.bool true) r (fun R=>ax r (v:=.bool true) rfl h1 to4 rfl) rfl fun fr r=>r9 ?_
  refine q5 (t:=true) (r.ev rfl) (fun _=>?_) (fun h=>by cases h)
  refine d9 (q6 (aa (kf ff f1 f2) r (fun R=>ax r (v:=kf ff f1 f2) rfl h2 xB rfl) rfl fun fr r=>?_));refine oD b1 1 r (fun R=>lD r rfl mq h1) rfl fun fr sp r=>aa (.agg #[]) r (fun R=>lJ r rfl jc) rfl fun fr r=>?_
  refine cS r (hf.at_.2 n (Nat.lt_succ_self n) x0 w3 (I8.below hB hF) hB.size) (fun R hc=>eu r rfl rfl hf.at_.1 hc) rfl ?_;rintro _ w4 ⟨v,rfl,hb,hr⟩
  refine ⟨_,rfl,fun fr r=>?_⟩
  have z4:=hb.size;have h3:=keep hb h3;have hB:=hB.trans (hb.mono hB.size);refine kP r hr.shape rfl rfl h3 eL rfl rfl fun w5 u5 r=>r9 ?_;have z5:=u5.size
  have h3:=u5.at_;have hB:=u5.below hB O
  refine q4 ?_;have hs:=hr.shape.cells;refine ak r rfl rfl h3 (k:=7) hs.1 eK ?_;rw [<-hs.2.2];exact aH.fin hB hr u5 (fun b hb=>.inl hb) (fun h=>by have:=hF _ h; omega) O O O
 | act op at_ a b k=>
  obtain ⟨nf,n1,n2,hcn,rfl,hk⟩:∃ (nf:FuncId) (n1 n2:List Value),af B0 nf=true/\pv=.agg (aC false aD.zero op at_ a b (kf nf n1 n2))/\Kq B0 aD u64 n F w0 (kf nf n1 n2) k:=by
   exact Jm.dD hp
  refine enter (l:=[.agg (aC false aD.zero op at_ a b (kf nf n1 n2)),kf ff f1 f2]) Tryz.func360 rfl 15 rfl rfl fun fr r=>?_;have hB:=Below.refl w0.heap.size w0
  refine d9 (q6 ?_);refine kX 133 (.agg (aC false aD.zero op at_ a b (kf nf n1 n2))) r rfl rfl fun b1 w1 q1 r=>?_;refine kX 324 (kf ff f1 f2) r rfl rfl fun b2 w2 q2 r=>?_
  refine ah (.cells (kq bK) 271 (0,0)) r (fun R=>ag fj) rfl fun fr b3 w3 q3 r=>r9 ?_;have h1:=keep q3.below (keep q2.below q1.at_)
  have h2:=keep q3.below q2.at_;have h3:=q3.at_;have e1:=q1.eq; have e2:=q2.eq; have e3:=q3.eq; have z1:=q1.size; have z2:=q2.size; have z3:=q3.size;have hB:=((hB.trans q1.below).trans (q2.below.mono O)).trans (q3.below.mono O)
  have zB:=hB.size;refine d9 (d9 (q6 (aa (zp b1) r (fun R=>az r (o:=0) rfl eX) rfl fun fr r=>?_)));refine aa (.bool false) r (fun R=>ax r (v:=.bool false) rfl h1 to4 rfl) rfl fun fr r=>r9 ?_
  refine q5 (t:=false) (r.ev rfl) (fun h=>by cases h) (fun _=>q7 ?_);refine d9 (q6 (aa (.pointer (some ⟨b1,1,none⟩)) r (fun R=>az r (o:=0) rfl lZ) rfl fun fr r=>kG (bh (⟨op,at_,a,b⟩:Access)) 4 r rfl h1 KX rfl rfl fun r=>aa (.func (.func 386) #[] #[zp b1,zp b2]) r (fun R=>aZ r rfl) rfl fun fr r=>?_))
  have I4:∀ b,(fun b=>F b\/b=b1\/b=b2) b->b<w3.heap.size:=by rintro b (h | h | h); exact q9 (hF b h) hB.size; omega; omega
  refine kC r (tM (F:=fun b=>F b\/b=b1\/b=b2) (n:=n) I4 ⟨op,at_,a,b⟩ (a1:=fun x=>(k x).bind g) (show Kq B0 bK u64 n (fun b=>F b\/b=b1\/b=b2) w3 (kf 386 [] [zp b1,zp b2]) (fun x=>(k x).bind g) from
   ⟨386,[],[zp b1,zp b2],EU,rfl,fun m hm x w' hs hz=>zk (ih m hm) (fun b hb=>q9 (I4 b hb) hz) (.inr (.inl rfl)) (hs.at_ (.inr (.inl rfl)) h1) (.inr (.inr rfl)) (hs.at_ (.inr (.inr rfl)) h2)
    (hk.mono O (fun b h=>.inl h) ((I8.below hB hF).trans (hs.sub (fun b h=>.inl h))) (Nat.le_trans hB.size hz)) (hf.mono O (fun b h=>.inl h) ((I8.below hB hF).trans (hs.sub (fun b h=>.inl h))) (Nat.le_trans hB.size hz)) x⟩)) rfl yz rfl ?_
  rintro _ w4 ⟨v,rfl,hb,hr⟩;refine ⟨_,rfl,fun fr r=>?_⟩
  have z4:=hb.size;have h3:=keep hb h3;have hB:=hB.trans (hb.mono hB.size);refine kP r hr.shape rfl rfl h3 eL rfl rfl fun w5 u5 r=>r9 ?_;have z5:=u5.size
  have h3:=u5.at_;have hB:=u5.below hB O
  refine q4 ?_;have hs:=hr.shape.cells;refine ak r rfl rfl h3 (k:=7) hs.1 eK ?_;rw [<-hs.2.2];exact aH.fin hB hr u5 yaf yaw O O O
theorem yT (hF:kH F w0) {t:T (Unit)} {pv fv:Value} {g:Unit->T (Int)} (hp:Jm B0 aD n t F w0 pv) (hf:Kq B0 bK noneE (n+1) F w0 fv g) :
  Calls B0 360 #[pv,fv] w0 (aH B0 bK n (t.bind g) F w0):=zq n hF hp (hf.mono O (fun b h=>h) (I8.refl _ _) (Nat.le_refl _)) (.inr hf)
def sW (n:Nat):Prop:=∀ {F:Nat->Prop} {w0:World},(∀ b,F b->b<w0.heap.size)->∀ {t:T (Int)} {pv fv:Value} {g:Int->T (IY)},Jm B0 aj n t F w0 pv->Kq B0 bA i64 n F w0 fv g->
  (t.bC=false\/Kq B0 bA i64 (n+1) F w0 fv g)->Calls B0 181 #[pv,fv] w0 (aH B0 bA n (t.bind g) F w0)
theorem zQ {n:Nat} (ih:sW n) {F:Nat->Prop} {w0:World} (hF:∀ b,F b->b<w0.heap.size) {op at_ a b:Int} {nf:FuncId} {n1 n2:List Value} {k:Int->T (Int)} {ff:FuncId} {f1 f2:List Value} {g:Int->T (IY)}
    {b1 b2:Nat} (F1:F b1) (h1:w0.heap[b1]?=some (.cells (aC false aj.zero op at_ a b (kf nf n1 n2)) 119 (0,0))) (F2:F b2) (h2:w0.heap[b2]?=some (.cells #[kf ff f1 f2] 233 (0,0)))
    (hk:Kq B0 aj u64 (n+1) F w0 (kf nf n1 n2) k) (hg:Kq B0 bA i64 (n+1) F w0 (kf ff f1 f2) g) (x:Int) :
    Calls B0 275 #[.int .u64 x,zp b1,zp b2] w0 (aH B0 bA n ((k x).bind g) F w0):=by
 refine kN Tryz.func275 rfl 11 rfl rfl fun fr r hB=>?_;refine d9 (q6 ?_)
 refine ah (.cells (kq bA) 116 (0,0)) r (fun R=>ag dX) rfl fun fr b3 w1 q1 r=>wn ?_;have h1:=keep q1.below h1
 have h2:=keep q1.below h2;have e3:=q1.eq;have z1:=q1.size;have h3:=q1.at_;have hB:=hB.trans (q1.below.mono hB.size);have zB:=hB.size;refine d9 ?_;refine bI 5 [.val (.pointer (some ⟨b1,6,none⟩)),.val (kf nf n1 n2),.val (U x),.pred (Ke B0 aj n (k x) F w0.heap.size b3) Ke.stable,.val (kf ff f1 f2)] mixed r kz (ct trivial (ct trivial (ct trivial (ct trivial (ct trivial bH))))) ?_ ?_
 ·
  refine ec r (fun _ u _ b d s=>az s (b:=b1) (o:=0) rfl oQ bz) ?_;refine dA r rfl (fun I2 u w' hb' hd r'=>?_) ?_
  ·
   obtain ⟨d0,_⟩:=hd;exact ax r' (v:=kf nf n1 n2) d0 (keep hb' h1) pd rfl bz
  refine ec r (fun _ u _ b d s=>aw s rfl bz) ?_;refine dA r rfl (fun I2 u w' hb' hd r'=>?_) ?_
  ·
   obtain ⟨d0,d1,_⟩:=hd;have zb:=hb'.size;have zb:w1.heap.size<=w'.heap.size:=zb;have hB':Below w0.heap.size w0 w':=hB.trans (Below.mono (w:=w1) ⟨hb'.os,hb'.tape,hb'.output,hb'.size,hb'.block⟩ hB.size);have d0:u 1=kf nf n1 n2:=d0;have d1:u 2=.int .u64 x:=d1;refine dM r' (fs:=n1) (cs:=n2) d0 d1 hk.at_.1 ((hk.at_.2 n (Nat.lt_succ_self n) x w' (I8.below hB' hF) hB'.size).mono ?_);rintro _ w2 ⟨v,rfl,hb2,Jz⟩;refine ⟨v,rfl,hb2,Ke.m7 (fun b h=>q9 (hF b h) hB'.size) O hB'.size hb2 (Jm.mono ?_ (I8.refl _ _) (Nat.le_refl _) n _ _ Jz)⟩
   rintro b (h | h)
   · exact .inl (.inl h)
   · exact .inr h
  refine ec r (fun _ u _ b d s=>ax s rfl (keep b h2) sH rfl bz) ?_;exact bJ
 intro fr u w2 hb Iz _ r;obtain ⟨_,hr3,_,hr⟩:Ke B0 aj n (k x) F w0.heap.size b3 (u 3) w2:=Iz 3 ke;have r:=r.congr (sc (Iz 4 ke) rfl);have z2:=hb.size;have h1:=keep hb h1;have h2:=keep hb h2;have h3:=keep hb h3;have hB2:=hB.trans (hb.mono hB.size);have zB2:=hB2.size;have I4:∀ b,(kW F w0 w2 b3) b->b<w2.heap.size:=by rintro b (h | h); exact q9 (hF b h) hB2.size; exact h.2.1
 refine kC r (ih (F:=fun b=>F b\/(w0.heap.size<=b/\b<w2.heap.size/\b≠b3)) I4 hr (hg.mono O (fun b h=>.inl h) (I8.below hB2 hF) hB2.size)
  (.inr (hg.mono (Nat.le_refl _) (fun b h=>.inl h) (I8.below hB2 hF) hB2.size))) rfl pg rfl ?_
 rintro _ w3 ⟨v2,rfl,hb2,Jz⟩;refine ⟨_,rfl,fun fr r=>?_⟩
 have z3:=hb2.size;have h3:=keep hb2 h3;have hB3:=hB2.trans (hb2.mono hB2.size);refine kP r Jz.shape rfl rfl h3 dP rfl rfl fun w4 u4 r=>wn ?_;have z4:=u4.size
 have h3:=u4.at_;have hB4:=u4.below hB3 O
 refine q4 ?_;have hs:=Jz.shape.cells;refine ak r rfl rfl h3 (k:=9) hs.1 dO ?_;rw [<-hs.2.2];exact aH.fin hB4 Jz u4 yac Kl O O O
theorem zD (n:Nat):sW n:=by
 induction n using Nat.strongRecOn with
 | _ n ih=>
 intro F w0 hF t pv fv g hp hf hd;obtain ⟨ff,f1,f2,hcf,rfl,hff⟩:=id hf;cases t with
 | cut=>unfold Jm at hp; exact hp.elim
 | done x0=>
  have hf:=hd.resolve_left yaA
  unfold Jm at hp
  subst hp;refine enter (l:=[.agg (aC true (aj.cells x0) 0 0 0 0 .nilFunc),kf ff f1 f2]) Tryz.func181 rfl 15 rfl rfl fun fr r=>?_;have hB:=Below.refl w0.heap.size w0
  refine d9 (q6 ?_);refine kX 119 (.agg (aC true (aj.cells x0) 0 0 0 0 .nilFunc)) r rfl rfl fun b1 w1 q1 r=>?_;refine kX 233 (kf ff f1 f2) r rfl rfl fun b2 w2 q2 r=>?_
  refine ah (.cells (kq bA) 116 (0,0)) r (fun R=>ag dX) rfl fun fr b3 w3 q3 r=>r9 ?_;have h1:=keep q3.below (keep q2.below q1.at_)
  have h2:=keep q3.below q2.at_;have h3:=q3.at_;have e1:=q1.eq; have e2:=q2.eq; have e3:=q3.eq; have z1:=q1.size; have z2:=q2.size; have z3:=q3.size;have hB:=((hB.trans q1.below).trans (q2.below.mono O)).trans (q3.below.mono O)
  have zB:=hB.size;refine d9 (d9 (q6 (aa (zp b1) r (fun R=>az r (o:=0) rfl ij) rfl fun fr r=>?_)));refine aa (.bool true) r (fun R=>ax r (v:=.bool true) rfl h1 to4 rfl) rfl fun fr r=>r9 ?_
  refine q5 (t:=true) (r.ev rfl) (fun _=>?_) (fun h=>by cases h)
  refine d9 (q6 (aa (kf ff f1 f2) r (fun R=>ax r (v:=kf ff f1 f2) rfl h2 sH rfl) rfl fun fr r=>aa (.pointer (some ⟨b1,1,none⟩)) r (fun R=>az r (o:=0) rfl oT) rfl fun fr r=>aa (.int .i64 x0) r (fun R=>ax r (v:=(.int .i64 x0)) rfl h1 IL rfl) rfl fun fr r=>?_));refine cS r (hf.at_.2 n (Nat.lt_succ_self n) x0 w3 (I8.below hB hF) hB.size) (fun R hc=>eu r rfl rfl hf.at_.1 hc) rfl ?_
  rintro _ w4 ⟨v,rfl,hb,hr⟩;refine ⟨_,rfl,fun fr r=>?_⟩
  have z4:=hb.size;have h3:=keep hb h3;have hB:=hB.trans (hb.mono hB.size);refine kP r hr.shape rfl rfl h3 dP rfl rfl fun w5 u5 r=>r9 ?_;have z5:=u5.size
  have h3:=u5.at_;have hB:=u5.below hB O
  refine q4 ?_;have hs:=hr.shape.cells;refine ak r rfl rfl h3 (k:=9) hs.1 dO ?_;rw [<-hs.2.2];exact aH.fin hB hr u5 (fun b hb=>.inl hb) (fun h=>by have:=hF _ h; omega) O O O
 | act op at_ a b k=>
  obtain ⟨nf,n1,n2,hcn,rfl,hk⟩:∃ (nf:FuncId) (n1 n2:List Value),af B0 nf=true/\pv=.agg (aC false aj.zero op at_ a b (kf nf n1 n2))/\Kq B0 aj u64 n F w0 (kf nf n1 n2) k:=by
   exact Jm.dD hp
  refine enter (l:=[.agg (aC false aj.zero op at_ a b (kf nf n1 n2)),kf ff f1 f2]) Tryz.func181 rfl 15 rfl rfl fun fr r=>?_;have hB:=Below.refl w0.heap.size w0
  refine d9 (q6 ?_);refine kX 119 (.agg (aC false aj.zero op at_ a b (kf nf n1 n2))) r rfl rfl fun b1 w1 q1 r=>?_;refine kX 233 (kf ff f1 f2) r rfl rfl fun b2 w2 q2 r=>?_
  refine ah (.cells (kq bA) 116 (0,0)) r (fun R=>ag dX) rfl fun fr b3 w3 q3 r=>r9 ?_;have h1:=keep q3.below (keep q2.below q1.at_)
  have h2:=keep q3.below q2.at_;have h3:=q3.at_;have e1:=q1.eq; have e2:=q2.eq; have e3:=q3.eq; have z1:=q1.size; have z2:=q2.size; have z3:=q3.size;have hB:=((hB.trans q1.below).trans (q2.below.mono O)).trans (q3.below.mono O)
  have zB:=hB.size;refine d9 (d9 (q6 (aa (zp b1) r (fun R=>az r (o:=0) rfl ij) rfl fun fr r=>?_)));refine aa (.bool false) r (fun R=>ax r (v:=.bool false) rfl h1 to4 rfl) rfl fun fr r=>r9 ?_
  refine q5 (t:=false) (r.ev rfl) (fun h=>by cases h) (fun _=>q7 ?_);refine d9 (q6 (aa (.pointer (some ⟨b1,2,none⟩)) r (fun R=>az r (o:=0) rfl oV) rfl fun fr r=>kG (bh (⟨op,at_,a,b⟩:Access)) 4 r rfl h1 KX rfl rfl fun r=>aa (.func (.func 275) #[] #[zp b1,zp b2]) r (fun R=>aZ r rfl) rfl fun fr r=>?_))
  have I4:∀ b,(fun b=>F b\/b=b1\/b=b2) b->b<w3.heap.size:=by rintro b (h | h | h); exact q9 (hF b h) hB.size; omega; omega
  refine kC r (qi (F:=fun b=>F b\/b=b1\/b=b2) (n:=n) I4 ⟨op,at_,a,b⟩ (a1:=fun x=>(k x).bind g) (show Kq B0 bA u64 n (fun b=>F b\/b=b1\/b=b2) w3 (kf 275 [] [zp b1,zp b2]) (fun x=>(k x).bind g) from
   ⟨275,[],[zp b1,zp b2],Hs,rfl,fun m hm x w' hs hz=>zQ (ih m hm) (fun b hb=>q9 (I4 b hb) hz) (.inr (.inl rfl)) (hs.at_ (.inr (.inl rfl)) h1) (.inr (.inr rfl)) (hs.at_ (.inr (.inr rfl)) h2)
    (hk.mono O (fun b h=>.inl h) ((I8.below hB hF).trans (hs.sub (fun b h=>.inl h))) (Nat.le_trans hB.size hz)) (hf.mono O (fun b h=>.inl h) ((I8.below hB hF).trans (hs.sub (fun b h=>.inl h))) (Nat.le_trans hB.size hz)) x⟩)) rfl s8 rfl ?_
  rintro _ w4 ⟨v,rfl,hb,hr⟩;refine ⟨_,rfl,fun fr r=>?_⟩
  have z4:=hb.size;have h3:=keep hb h3;have hB:=hB.trans (hb.mono hB.size);refine kP r hr.shape rfl rfl h3 dP rfl rfl fun w5 u5 r=>r9 ?_;have z5:=u5.size
  have h3:=u5.at_;have hB:=u5.below hB O
  refine q4 ?_;have hs:=hr.shape.cells;refine ak r rfl rfl h3 (k:=9) hs.1 dO ?_;rw [<-hs.2.2];exact aH.fin hB hr u5 yaf yaw O O O
theorem pH (hF:kH F w0) {t:T (Int)} {pv fv:Value} {g:Int->T (IY)} (hp:Jm B0 aj n t F w0 pv) (hf:Kq B0 bA i64 (n+1) F w0 fv g) :
  Calls B0 181 #[pv,fv] w0 (aH B0 bA n (t.bind g) F w0):=zD n hF hp (hf.mono O (fun b h=>h) (I8.refl _ _) (Nat.le_refl _)) (.inr hf)
def tq (n:Nat):Prop:=∀ {F:Nat->Prop} {w0:World},(∀ b,F b->b<w0.heap.size)->∀ {t:T (Int)} {pv fv:Value} {g:Int->T (Int)},Jm B0 aj n t F w0 pv->Kq B0 aj i64 n F w0 fv g->
  (t.bC=false\/Kq B0 aj i64 (n+1) F w0 fv g)->Calls B0 223 #[pv,fv] w0 (aH B0 aj n (t.bind g) F w0)
theorem Ag {n:Nat} (ih:tq n) {F:Nat->Prop} {w0:World} (hF:∀ b,F b->b<w0.heap.size) {op at_ a b:Int} {nf:FuncId} {n1 n2:List Value} {k:Int->T (Int)} {ff:FuncId} {f1 f2:List Value} {g:Int->T (Int)}
    {b1 b2:Nat} (F1:F b1) (h1:w0.heap[b1]?=some (.cells (aC false aj.zero op at_ a b (kf nf n1 n2)) 119 (0,0))) (F2:F b2) (h2:w0.heap[b2]?=some (.cells #[kf ff f1 f2] 261 (0,0)))
    (hk:Kq B0 aj u64 (n+1) F w0 (kf nf n1 n2) k) (hg:Kq B0 aj i64 (n+1) F w0 (kf ff f1 f2) g) (x:Int) :
    Calls B0 297 #[.int .u64 x,zp b1,zp b2] w0 (aH B0 aj n ((k x).bind g) F w0):=by
 refine kN Tryz.func297 rfl 11 rfl rfl fun fr r hB=>?_;refine d9 (q6 ?_)
 refine ah (.cells (kq aj) 119 (0,0)) r (fun R=>ag bP) rfl fun fr b3 w1 q1 r=>wn ?_;have h1:=keep q1.below h1
 have h2:=keep q1.below h2;have e3:=q1.eq;have z1:=q1.size;have h3:=q1.at_;have hB:=hB.trans (q1.below.mono hB.size);have zB:=hB.size;refine d9 ?_;refine bI 5 [.val (.pointer (some ⟨b1,6,none⟩)),.val (kf nf n1 n2),.val (U x),.pred (Ke B0 aj n (k x) F w0.heap.size b3) Ke.stable,.val (kf ff f1 f2)] mixed r kz (ct trivial (ct trivial (ct trivial (ct trivial (ct trivial bH))))) ?_ ?_
 ·
  refine ec r (fun _ u _ b d s=>az s (b:=b1) (o:=0) rfl oQ bz) ?_;refine dA r rfl (fun I2 u w' hb' hd r'=>?_) ?_
  ·
   obtain ⟨d0,_⟩:=hd;exact ax r' (v:=kf nf n1 n2) d0 (keep hb' h1) pd rfl bz
  refine ec r (fun _ u _ b d s=>aw s rfl bz) ?_;refine dA r rfl (fun I2 u w' hb' hd r'=>?_) ?_
  ·
   obtain ⟨d0,d1,_⟩:=hd;have zb:=hb'.size;have zb:w1.heap.size<=w'.heap.size:=zb;have hB':Below w0.heap.size w0 w':=hB.trans (Below.mono (w:=w1) ⟨hb'.os,hb'.tape,hb'.output,hb'.size,hb'.block⟩ hB.size);have d0:u 1=kf nf n1 n2:=d0;have d1:u 2=.int .u64 x:=d1;refine dM r' (fs:=n1) (cs:=n2) d0 d1 hk.at_.1 ((hk.at_.2 n (Nat.lt_succ_self n) x w' (I8.below hB' hF) hB'.size).mono ?_);rintro _ w2 ⟨v,rfl,hb2,Jz⟩;refine ⟨v,rfl,hb2,Ke.m7 (fun b h=>q9 (hF b h) hB'.size) O hB'.size hb2 (Jm.mono ?_ (I8.refl _ _) (Nat.le_refl _) n _ _ Jz)⟩
   rintro b (h | h)
   · exact .inl (.inl h)
   · exact .inr h
  refine ec r (fun _ u _ b d s=>ax s rfl (keep b h2) rW rfl bz) ?_;exact bJ
 intro fr u w2 hb Iz _ r;obtain ⟨_,hr3,_,hr⟩:Ke B0 aj n (k x) F w0.heap.size b3 (u 3) w2:=Iz 3 ke;have r:=r.congr (sc (Iz 4 ke) rfl);have z2:=hb.size;have h1:=keep hb h1;have h2:=keep hb h2;have h3:=keep hb h3;have hB2:=hB.trans (hb.mono hB.size);have zB2:=hB2.size;have I4:∀ b,(kW F w0 w2 b3) b->b<w2.heap.size:=by rintro b (h | h); exact q9 (hF b h) hB2.size; exact h.2.1
 refine kC r (ih (F:=fun b=>F b\/(w0.heap.size<=b/\b<w2.heap.size/\b≠b3)) I4 hr (hg.mono O (fun b h=>.inl h) (I8.below hB2 hF) hB2.size)
  (.inr (hg.mono (Nat.le_refl _) (fun b h=>.inl h) (I8.below hB2 hF) hB2.size))) rfl mr rfl ?_
 rintro _ w3 ⟨v2,rfl,hb2,Jz⟩;refine ⟨_,rfl,fun fr r=>?_⟩
 have z3:=hb2.size;have h3:=keep hb2 h3;have hB3:=hB2.trans (hb2.mono hB2.size);refine kP r Jz.shape rfl rfl h3 bv rfl rfl fun w4 u4 r=>wn ?_;have z4:=u4.size
 have h3:=u4.at_;have hB4:=u4.below hB3 O
 refine q4 ?_;have hs:=Jz.shape.cells;refine ak r rfl rfl h3 (k:=7) hs.1 bu ?_;rw [<-hs.2.2];exact aH.fin hB4 Jz u4 yac Kl O O O
theorem tB (n:Nat):tq n:=by
 induction n using Nat.strongRecOn with
 | _ n ih=>
 intro F w0 hF t pv fv g hp hf hd;obtain ⟨ff,f1,f2,hcf,rfl,hff⟩:=id hf;cases t with
 | cut=>unfold Jm at hp; exact hp.elim
 | done x0=>
  have hf:=hd.resolve_left yaA
  unfold Jm at hp
  subst hp;refine enter (l:=[.agg (aC true (aj.cells x0) 0 0 0 0 .nilFunc),kf ff f1 f2]) Tryz.func223 rfl 15 rfl rfl fun fr r=>?_;have hB:=Below.refl w0.heap.size w0
  refine d9 (q6 ?_);refine kX 119 (.agg (aC true (aj.cells x0) 0 0 0 0 .nilFunc)) r rfl rfl fun b1 w1 q1 r=>?_;refine kX 261 (kf ff f1 f2) r rfl rfl fun b2 w2 q2 r=>?_
  refine ah (.cells (kq aj) 119 (0,0)) r (fun R=>ag bP) rfl fun fr b3 w3 q3 r=>r9 ?_;have h1:=keep q3.below (keep q2.below q1.at_)
  have h2:=keep q3.below q2.at_;have h3:=q3.at_;have e1:=q1.eq; have e2:=q2.eq; have e3:=q3.eq; have z1:=q1.size; have z2:=q2.size; have z3:=q3.size;have hB:=((hB.trans q1.below).trans (q2.below.mono O)).trans (q3.below.mono O)
  have zB:=hB.size;refine d9 (d9 (q6 (aa (zp b1) r (fun R=>az r (o:=0) rfl ij) rfl fun fr r=>?_)));refine aa (.bool true) r (fun R=>ax r (v:=.bool true) rfl h1 to4 rfl) rfl fun fr r=>r9 ?_
  refine q5 (t:=true) (r.ev rfl) (fun _=>?_) (fun h=>by cases h)
  refine d9 (q6 (aa (kf ff f1 f2) r (fun R=>ax r (v:=kf ff f1 f2) rfl h2 rW rfl) rfl fun fr r=>aa (.pointer (some ⟨b1,1,none⟩)) r (fun R=>az r (o:=0) rfl oT) rfl fun fr r=>aa (.int .i64 x0) r (fun R=>ax r (v:=(.int .i64 x0)) rfl h1 IL rfl) rfl fun fr r=>?_));refine cS r (hf.at_.2 n (Nat.lt_succ_self n) x0 w3 (I8.below hB hF) hB.size) (fun R hc=>eu r rfl rfl hf.at_.1 hc) rfl ?_
  rintro _ w4 ⟨v,rfl,hb,hr⟩;refine ⟨_,rfl,fun fr r=>?_⟩
  have z4:=hb.size;have h3:=keep hb h3;have hB:=hB.trans (hb.mono hB.size);refine kP r hr.shape rfl rfl h3 bv rfl rfl fun w5 u5 r=>r9 ?_;have z5:=u5.size
  have h3:=u5.at_;have hB:=u5.below hB O
  refine q4 ?_;have hs:=hr.shape.cells;refine ak r rfl rfl h3 (k:=7) hs.1 bu ?_;rw [<-hs.2.2];exact aH.fin hB hr u5 (fun b hb=>.inl hb) (fun h=>by have:=hF _ h; omega) O O O
 | act op at_ a b k=>
  obtain ⟨nf,n1,n2,hcn,rfl,hk⟩:∃ (nf:FuncId) (n1 n2:List Value),af B0 nf=true/\pv=.agg (aC false aj.zero op at_ a b (kf nf n1 n2))/\Kq B0 aj u64 n F w0 (kf nf n1 n2) k:=by
   exact Jm.dD hp
  refine enter (l:=[.agg (aC false aj.zero op at_ a b (kf nf n1 n2)),kf ff f1 f2]) Tryz.func223 rfl 15 rfl rfl fun fr r=>?_;have hB:=Below.refl w0.heap.size w0
  refine d9 (q6 ?_);refine kX 119 (.agg (aC false aj.zero op at_ a b (kf nf n1 n2))) r rfl rfl fun b1 w1 q1 r=>?_;refine kX 261 (kf ff f1 f2) r rfl rfl fun b2 w2 q2 r=>?_
  refine ah (.cells (kq aj) 119 (0,0)) r (fun R=>ag bP) rfl fun fr b3 w3 q3 r=>r9 ?_;have h1:=keep q3.below (keep q2.below q1.at_)
  have h2:=keep q3.below q2.at_;have h3:=q3.at_;have e1:=q1.eq; have e2:=q2.eq; have e3:=q3.eq; have z1:=q1.size; have z2:=q2.size; have z3:=q3.size;have hB:=((hB.trans q1.below).trans (q2.below.mono O)).trans (q3.below.mono O)
  have zB:=hB.size;refine d9 (d9 (q6 (aa (zp b1) r (fun R=>az r (o:=0) rfl ij) rfl fun fr r=>?_)));refine aa (.bool false) r (fun R=>ax r (v:=.bool false) rfl h1 to4 rfl) rfl fun fr r=>r9 ?_
  refine q5 (t:=false) (r.ev rfl) (fun h=>by cases h) (fun _=>q7 ?_);refine d9 (q6 (aa (.pointer (some ⟨b1,2,none⟩)) r (fun R=>az r (o:=0) rfl oV) rfl fun fr r=>kG (bh (⟨op,at_,a,b⟩:Access)) 4 r rfl h1 KX rfl rfl fun r=>aa (.func (.func 297) #[] #[zp b1,zp b2]) r (fun R=>aZ r rfl) rfl fun fr r=>?_))
  have I4:∀ b,(fun b=>F b\/b=b1\/b=b2) b->b<w3.heap.size:=by rintro b (h | h | h); exact q9 (hF b h) hB.size; omega; omega
  refine kC r (lz (F:=fun b=>F b\/b=b1\/b=b2) (n:=n) I4 ⟨op,at_,a,b⟩ (a1:=fun x=>(k x).bind g) (show Kq B0 aj u64 n (fun b=>F b\/b=b1\/b=b2) w3 (kf 297 [] [zp b1,zp b2]) (fun x=>(k x).bind g) from
   ⟨297,[],[zp b1,zp b2],FO,rfl,fun m hm x w' hs hz=>Ag (ih m hm) (fun b hb=>q9 (I4 b hb) hz) (.inr (.inl rfl)) (hs.at_ (.inr (.inl rfl)) h1) (.inr (.inr rfl)) (hs.at_ (.inr (.inr rfl)) h2)
    (hk.mono O (fun b h=>.inl h) ((I8.below hB hF).trans (hs.sub (fun b h=>.inl h))) (Nat.le_trans hB.size hz)) (hf.mono O (fun b h=>.inl h) ((I8.below hB hF).trans (hs.sub (fun b h=>.inl h))) (Nat.le_trans hB.size hz)) x⟩)) rfl mz rfl ?_
  rintro _ w4 ⟨v,rfl,hb,hr⟩;refine ⟨_,rfl,fun fr r=>?_⟩
  have z4:=hb.size;have h3:=keep hb h3;have hB:=hB.trans (hb.mono hB.size);refine kP r hr.shape rfl rfl h3 bv rfl rfl fun w5 u5 r=>r9 ?_;have z5:=u5.size
  have h3:=u5.at_;have hB:=u5.below hB O
  refine q4 ?_;have hs:=hr.shape.cells;refine ak r rfl rfl h3 (k:=7) hs.1 bu ?_;rw [<-hs.2.2];exact aH.fin hB hr u5 yaf yaw O O O
theorem zu (hF:kH F w0) {t:T (Int)} {pv fv:Value} {g:Int->T (Int)} (hp:Jm B0 aj n t F w0 pv) (hf:Kq B0 aj i64 n F w0 fv g) (hd:t.bC=false) :
  Calls B0 223 #[pv,fv] w0 (aH B0 aj n (t.bind g) F w0):=tB n hF hp hf (.inl hd)
theorem pJ (hF:kH F w0) {t:T (Int)} {pv fv:Value} {g:Int->T (Int)} (hp:Jm B0 aj n t F w0 pv) (hf:Kq B0 aj i64 (n+1) F w0 fv g) :
  Calls B0 223 #[pv,fv] w0 (aH B0 aj n (t.bind g) F w0):=tB n hF hp (hf.mono O (fun b h=>h) (I8.refl _ _) (Nat.le_refl _)) (.inr hf)
end
end Go.Proofs.YtbbipmelhmgmfaaGreat
