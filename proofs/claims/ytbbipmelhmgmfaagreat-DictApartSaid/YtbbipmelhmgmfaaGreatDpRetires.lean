/- Ours. -/
import Derived.Test.YtbbipmelhmgmfaaGreatDpM6
import Derived.Test.YtbbipmelhmgmfaaGreatDpM12
set_option linter.all false
set_option maxRecDepth 100000
set_option maxHeartbeats 20000000
namespace Go.Proofs.YtbbipmelhmgmfaaGreat
open Go.RowKit
section
variable {n : Nat} {F : Nat → Prop} {j : Nat} {w0 : World}
theorem zrr:zpf ar 111:=kz
theorem zqw:zpf ar 112:=kz
theorem zre:zpf ar 137:=kz
theorem zr6:zpf ar 194:=kz
theorem zqU:zpf ar 195:=kz
theorem zsF:zpf ar 240:=kz
theorem zsP:zpf ar 281:=kz
theorem zqA:zpf ar 282:=kz
theorem zuf:zpf ar 298:=kz
theorem zul:zpf ar 299:=kz
theorem zuz:zpf ar 300:=kz
theorem zrM:zpf ar 305:=kz
theorem zsL:zpf ar 306:=kz
theorem ztu:zpf ar 307:=kz
theorem zto:zpf ar 308:=kz
theorem zu1:zpf ar 309:=kz
theorem ztB:zpf ar 347:=kz
theorem ztm:zpf ar 349:=kz
theorem ztZ:zpf ar 350:=kz
theorem ztd:zpf ar 351:=kz
theorem ztM:zpf ar 354:=kz
theorem zrY:zpf ar 381:=kz
theorem zt3:zpf ar 382:=kz
theorem zu8:zpf ar 383:=kz
theorem zu9:zpf ar 384:=kz
theorem cl89:zpf ar 89:=kz
theorem ziA:zpq ar 293 0 0:=kz
theorem zn2:zpq ar 293 1 1:=kz
theorem zlL:zpq ar 293 2 2:=kz
theorem zr1:tyA ar 293 3:=kz
theorem zut:sized ar 239 1:=kz
theorem ztX:sized ar 293 3:=kz
theorem zuC:zeroOf ar 239=some .nilFunc:=kz
theorem ztT:zeroOf ar 293=some (aq (scanC (⟨0,0,0⟩:Scan))):=kz
def D.zg9 (aI:Plan→Int→Int→(Unit→T Int)→T Int) (c0:Plan) (c1:Int) (c2:Int) (c3:(Unit→T Int)):T Int:=(aI c0 c1 (IntKind.i64.wrap (c2+1)) c3)
def D.zbh (aI:Plan→Int→Int→(Unit→T Int)→T Int) (a0:Plan) (a1:Int) (a2:Int) (a3:(Unit→T Int)):T Int:=(bif (a2==3) then (a3 ()) else (D.zb5 (D.za8 a0 a1 a2) 0 (fun _=>(D.zg9 aI a0 a1 a2 a3))))
def D.zbQ:Nat→Plan→Int→Int→(Unit→T Int)→T Int
 | 0,_,_,_,_=>.cut
 | k+1,a0,a1,a2,a3=>D.zbh (D.zbQ k) a0 a1 a2 a3
def zez (r:Plan→Int→Int→(Unit→T Int)→T Int) (n:Nat):Prop:=∀ (F:Nat→Prop) (w0:World),(∀ b,F b→b<w0.heap.size)→∀ (a0:Plan) (a1:Int) (a2:Int) {a3f:FuncId} {aQ aR:List Value} {a3:(Unit→T Int)} (a3n:FnT ar zpl unitE (n+1) F w0 (kf a3f aQ aR) a3),Calls ar 305 #[aq (zpg a0),.int .i64 a1,.int .i64 a2,kf a3f aQ aR] w0 (zpp ar zpl n (r a0 a1 a2 a3) F w0)
theorem zk3 {aI:Plan→Int→Int→(Unit→T Int)→T Int} (hF:kH F w0) (aT:∀ m,m≤n→zez aI m)
    (c0:Plan) {c0b:Nat} (c0F:F c0b) (c0h:w0.heap[c0b]?=some (.cells ((zpg c0)).toArray 23 (0,0))) (c1:Int) {c1b:Nat} (c1F:F c1b) (c1h:w0.heap[c1b]?=some (.cells ([(.int .i64 c1)]).toArray 3 (0,0))) (c2:Int) {c2b:Nat} (c2F:F c2b) (c2h:w0.heap[c2b]?=some (.cells ([(.int .i64 c2)]).toArray 3 (0,0))) {c3f:FuncId} {c3_1 c3_2:List Value} {c3:(Unit→T Int)} {c3b:Nat} (c3F:F c3b) (c3h:w0.heap[c3b]?=some (.cells #[kf c3f c3_1 c3_2] 239 (0,0))) (c3n:FnT ar zpl unitE (n+1) F w0 (kf c3f c3_1 c3_2) c3) :
    Calls ar 354 #[zp c0b,zp c1b,zp c2b,zp c3b] w0 (zpp ar zpl n (D.zg9 aI c0 c1 c2 c3) F w0):=by
 refine kN Tryz.func354 rfl 11 rfl rfl fun fr r hB=>?_;have lc0b:=ah c0h
 have lc1b:=ah c1h;have lc2b:=ah c2h;have lc3b:=ah c3h;refine wsr ?_;refine za7 (.cells (kq zpl) 119 (0,0)) r (fun R=>za6 zpQ) rfl fun fr b1 w2 n3 r=>?_;obtain ⟨E1,Z2,H1,hB,zB⟩:=n3.all hB
 refine wn (wsr (kG (zpg c0) 6 r rfl (keep hB c0h) ta23 rfl rfl fun r=>kL (I c1) r rfl (keep hB c1h) to3 rfl rfl fun r=>kL (I c2) r rfl (keep hB c2h) to3 rfl rfl fun r=>kB r rfl rfl rfl rfl rfl fun r=>kL (kf c3f c3_1 c3_2) r rfl (keep hB c3h) zqE rfl rfl fun r=>?_));have hF1:=zpz hF hB b1
 refine kD r ((aT n kw) (kW F w0 w2 b1) _ hF1 c0 c1 (W (c2+1)) (c3n.mono kw (fun b h=>.inl h) (Same.below hB hF) hB.size)) rfl zrM rfl fun w4 v5 hb hr6 r=>?_;have Z4:=hb.size
 have H1:=keep hb H1;obtain ⟨hB,zB⟩:=bon hb hB;refine kP r hr6.shape rfl rfl H1 zpN rfl rfl fun w7 u8 r=>?_;have Z7:=u8.size
 have H1:=u8.at_;obtain ⟨hB,zB⟩:=u8.on hB kw
 exact wn (ac (kR r hr6 rfl rfl H1 rfl zpM hF hB u8 kw kw kw))
theorem zkA {n:Nat} {F:Nat→Prop} {aI:Plan→Int→Int→(Unit→T Int)→T Int} {w0:World} (hF:∀ b,F b→b<w0.heap.size) (aT:∀ m,m<n→zez aI m)
    (a0:Plan) (a1:Int) (a2:Int) {a3f:FuncId} {aQ aR:List Value} {a3:(Unit→T Int)} (a3n:FnT ar zpl unitE (n+1) F w0 (kf a3f aQ aR) a3) :
    Calls ar 305 #[aq (zpg a0),.int .i64 a1,.int .i64 a2,kf a3f aQ aR] w0 (zpp ar zpl n (D.zbh aI a0 a1 a2 a3) F w0):=by
 refine kN Tryz.func305 rfl 19 rfl rfl fun fr r hB=>?_;refine wsr ?_
 refine kX 23 (aq (zpg a0)) r rfl rfl fun b1 w2 n3 r=>?_;obtain ⟨E1,Z2,H1,hB,zB⟩:=n3.all hB
 refine kX 3 (I a1) r rfl rfl fun b4 w5 n6 r=>?_;have H1:=keep n6.below H1
 obtain ⟨E4,Z5,H4,hB,zB⟩:=n6.all hB;refine kX 3 (I a2) r rfl rfl fun b7 w8 n9 r=>?_;have H1:=keep n9.below H1
 have H4:=keep n9.below H4;obtain ⟨E7,Z8,H7,hB,zB⟩:=n9.all hB;refine kX 239 (kf a3f aQ aR) r rfl rfl fun b10 w11 n12 r=>?_;have H1:=keep n12.below H1
 have H4:=keep n12.below H4;have H7:=keep n12.below H7;obtain ⟨E10,Z11,H10,hB,zB⟩:=n12.all hB;refine za7 (.cells (kq zpl) 119 (0,0)) r (fun R=>za6 zpQ) rfl fun fr b13 w14 n15 r=>?_;have H1:=keep n15.below H1
 have H4:=keep n15.below H4;have H7:=keep n15.below H7;have H10:=keep n15.below H10;obtain ⟨E13,Z14,H13,hB,zB⟩:=n15.all hB;refine wn (aa (wsr (kL (I a2) r rfl H7 to3 rfl rfl fun r=>kB r rfl rfl rfl rfl rfl fun r=>wn ?_)));refine ae (t:=(a2==3)) (r.ev rfl) (fun h16=>?_) (fun h16=>?_)
 ·
  refine wsr (kL (kf a3f aQ aR) r rfl H10 zqE rfl rfl fun r=>?_);refine zbq r (a3n.at_.2 n (Nat.lt_succ_self n) () w14 (Same.below hB hF) hB.size) (fun R hc=>zfR r rfl a3n.at_.1 hc) rfl ?_
  rintro _ w17 ⟨v18,rfl,hb,hr19⟩;refine ⟨_,rfl,fun fr r=>?_⟩
  have Z17:=hb.size;have H1:=keep hb H1;have H4:=keep hb H4;have H7:=keep hb H7;have H10:=keep hb H10;have H13:=keep hb H13;obtain ⟨hB,zB⟩:=bon hb hB;refine kP r hr19.shape rfl rfl H13 zpN rfl rfl fun w20 u21 r=>?_;have Z20:=u21.size
  have H1:=u21.keep H1 kw
  have H4:=u21.keep H4 kw
  have H7:=u21.keep H7 kw
  have H10:=u21.keep H10 kw
  have H13:=u21.at_;obtain ⟨hB,zB⟩:=u21.on hB kw
  refine wn (ac ?_);have hd:D.zbh aI a0 a1 a2 a3=(a3 ()):=(zao h16).trans (rfl);have hs:=hr19.shape.cells;refine za5 r rfl rfl H13 (k:=7) hs.1 zpM ?_;rw [←hs.2.2,hd];exact zpp.fin hB hr19 u21 (fun b hb=>.inl hb) (fun h=>by have:=hF _ h; omega) kw kw kw
 refine ag (wsr (kG (zpg a0) 6 r rfl H1 ta23 rfl rfl fun r=>kL (I a1) r rfl H4 to3 rfl rfl fun r=>kL (I a2) r rfl H7 to3 rfl rfl fun r=>?_));refine kE r (zaY w14 a0 a1 a2) rfl cl89 rfl fun w22 hb r=>?_
 have Z22:=hb.size;have H1:=keep hb H1;have H4:=keep hb H4;have H7:=keep hb H7;have H10:=keep hb H10;have H13:=keep hb H13;obtain ⟨hB,zB⟩:=bon hb hB;refine za0 (.func (.func 354) #[] #[zp b1,zp b4,zp b7,zp b10]) r (fun R=>zaf r rfl) rfl fun fr r=>?_;have hF1:=zpz hF hB b13
 have f23:((kW F w0 w22 b13)) b1:=(.inr ⟨kw,kw,kw⟩)
 have f24:((kW F w0 w22 b13)) b4:=(.inr ⟨kw,kw,kw⟩)
 have f25:((kW F w0 w22 b13)) b7:=(.inr ⟨kw,kw,kw⟩)
 have f26:((kW F w0 w22 b13)) b10:=(.inr ⟨kw,kw,kw⟩)
 refine kD r (zbB (F:=(kW F w0 w22 b13)) (n:=n) hF1 (D.za8 a0 a1 a2) 0 ⟨354,[],[zp b1,zp b4,zp b7,zp b10],ztM,rfl,fun m hm _ w' hs hz=>zk3 (fun b hb=>ai (hF1 b hb) hz) (fun m' hm'=>aT m' kw) a0 f23 (hs.at_ f23 H1) a1 f24 (hs.at_ f24 H4) a2 f25 (hs.at_ f25 H7) f26 (hs.at_ f26 H10) (a3n.mono kw (fun b h=>.inl h) ((Same.below hB hF).trans (hs.sub (fun b h=>.inl h))) (Nat.le_trans hB.size hz))⟩) rfl zqn rfl fun w27 v28 hb hr29 r=>?_;have Z27:=hb.size
 have H1:=keep hb H1;have H4:=keep hb H4;have H7:=keep hb H7;have H10:=keep hb H10;have H13:=keep hb H13;obtain ⟨hB,zB⟩:=bon hb hB;refine kP r hr29.shape rfl rfl H13 zpN rfl rfl fun w30 u31 r=>?_;have Z30:=u31.size
 have H1:=u31.keep H1 kw
 have H4:=u31.keep H4 kw
 have H7:=u31.keep H7 kw
 have H10:=u31.keep H10 kw
 have H13:=u31.at_;obtain ⟨hB,zB⟩:=u31.on hB kw
 refine wn (ac ?_);have hd:D.zbh aI a0 a1 a2 a3=(D.zb5 (D.za8 a0 a1 a2) 0 (fun _=>(D.zg9 aI a0 a1 a2 a3))):=(zaq h16).trans (rfl)
 have hs:=hr29.shape.cells;refine za5 r rfl rfl H13 (k:=7) hs.1 zpM ?_;rw [←hs.2.2,hd];exact rfin hF hB hr29 u31 kw kw kw
theorem zkJ {n:Nat} {k:Nat} (hk:n<k):zez (D.zbQ k) n:=by
 induction n using Nat.strongRecOn generalizing k with
 | _ n ih=>
  obtain ⟨k,rfl⟩:∃ q,k=q+1:=⟨k - 1,kw⟩
  intro F w0 hF;have h:=@zkA n F (D.zbQ k) w0 hF (fun m hm=>ih m hm kw)
  exact h
def D.zb8 (j:Nat) (c0:State) (c1:Plan) (c2:Int):T Int:=(bif (c0.mode==3) then (D.zaR (-1)) else (D.zcX j c1 c2))
theorem zgn (hF:kH F w0) (hj:n<j)
    (c0:State) {c0b:Nat} (c0F:F c0b) (c0h:w0.heap[c0b]?=some (.cells ((zps c0)).toArray 190 (0,0))) (c1:Plan) {c1b:Nat} (c1F:F c1b) (c1h:w0.heap[c1b]?=some (.cells ((zpg c1)).toArray 23 (0,0))) (c2:Int) {c2b:Nat} (c2F:F c2b) (c2h:w0.heap[c2b]?=some (.cells ([(.int .i64 c2)]).toArray 3 (0,0))) :
    Calls ar 309 #[zp c0b,zp c1b,zp c2b] w0 (zpp ar zpl n (D.zb8 j c0 c1 c2) F w0):=by
 refine kN Tryz.func309 rfl 11 rfl rfl fun fr r hB=>?_;have lc0b:=ah c0h
 have lc1b:=ah c1h;have lc2b:=ah c2h;refine wsr ?_;refine za7 (.cells (kq zpl) 119 (0,0)) r (fun R=>za6 zpQ) rfl fun fr b1 w2 n3 r=>?_;obtain ⟨E1,Z2,H1,hB,zB⟩:=n3.all hB
 refine wn (aa (wsr (kF 0 r rfl zjM rfl fun r=>kL (I c0.mode) r rfl (keep hB c0h) to3 rfl rfl fun r=>kB r rfl rfl rfl rfl rfl fun r=>wn ?_)));refine ae (t:=(c0.mode==3)) (r.ev rfl) (fun h4=>?_) (fun h4=>?_)
 ·
  refine wsr ?_;have hF1:=zpz hF hB b1;refine kD r (zbd (F:=(kW F w0 w2 b1)) (n:=n) hF1 (-1)) rfl zqf rfl fun w5 v6 hb hr7 r=>?_;have Z5:=hb.size
  have H1:=keep hb H1;obtain ⟨hB,zB⟩:=bon hb hB;refine kP r hr7.shape rfl rfl H1 zpN rfl rfl fun w8 u9 r=>?_;have Z8:=u9.size
  have H1:=u9.at_;obtain ⟨hB,zB⟩:=u9.on hB kw
  refine wn (ac ?_);have hd:D.zb8 j c0 c1 c2=(D.zaR (-1)):=(zao h4).trans (rfl);have hs:=hr7.shape.cells;refine za5 r rfl rfl H1 (k:=7) hs.1 zpM ?_;rw [←hs.2.2,hd];exact rfin hF hB hr7 u9 kw kw kw
 refine ag (wsr (kG (zpg c1) 6 r rfl (keep hB c1h) ta23 rfl rfl fun r=>kL (I c2) r rfl (keep hB c2h) to3 rfl rfl fun r=>?_));have hF1:=zpz hF hB b1
 refine kD r ((zlQ (k:=j) (n:=n) kw) (kW F w0 w2 b1) _ hF1 c1 c2) rfl zsz rfl fun w10 v11 hb hr12 r=>?_;have Z10:=hb.size
 have H1:=keep hb H1;obtain ⟨hB,zB⟩:=bon hb hB;refine kP r hr12.shape rfl rfl H1 zpN rfl rfl fun w13 u14 r=>?_;have Z13:=u14.size
 have H1:=u14.at_;obtain ⟨hB,zB⟩:=u14.on hB kw
 refine wn (ac ?_);have hd:D.zb8 j c0 c1 c2=(D.zcX j c1 c2):=(zaq h4).trans (rfl);have hs:=hr12.shape.cells;refine za5 r rfl rfl H1 (k:=7) hs.1 zpM ?_;rw [←hs.2.2,hd];exact rfin hF hB hr12 u14 kw kw kw
def D.ze9 (j:Nat) (c0:Plan) (c1:Int) (a0:Int):T Int:=(D.zb5 (D.zaJ c0 c1) (D.zak (D.zag ((D.zan a0).1) c0.gen)) (fun _=>(D.zb8 j (D.zag ((D.zan a0).1) c0.gen) c0 c1)))
theorem zho (hF:kH F w0) (hj:n<j)
    (c0:Plan) {c0b:Nat} (c0F:F c0b) (c0h:w0.heap[c0b]?=some (.cells ((zpg c0)).toArray 23 (0,0))) (c1:Int) {c1b:Nat} (c1F:F c1b) (c1h:w0.heap[c1b]?=some (.cells ([(.int .i64 c1)]).toArray 3 (0,0))) (a0:Int) :
    Calls ar 307 #[.int .u64 a0,zp c0b,zp c1b] w0 (zpp ar zpl n (D.ze9 j c0 c1 a0) F w0):=by
 refine kN Tryz.func307 rfl 24 rfl rfl fun fr r hB=>?_;have lc0b:=ah c0h
 have lc1b:=ah c1h;refine wsr ?_;refine za7 (.cells (kq zpl) 119 (0,0)) r (fun R=>za6 zpQ) rfl fun fr b1 w2 n3 r=>?_;obtain ⟨E1,Z2,H1,hB,zB⟩:=n3.all hB
 refine wn (wsr (kM (U a0) r rfl rfl fun r=>?_));refine kE r (zfI w2 a0) rfl zrr rfl fun w4 hb r=>?_
 have Z4:=hb.size;have H1:=keep hb H1;obtain ⟨hB,zB⟩:=bon hb hB;refine kM (.tuple #[(aq (zps (D.zan a0).1)),(.bool (D.zan a0).2)]) r rfl rfl fun r=>za0 (aq (zps (D.zan a0).1)) r (fun R=>zb1 r (vs:=#[(aq (zps (D.zan a0).1)),(.bool (D.zan a0).2)]) rfl rfl) rfl fun fr r=>za0 (.bool (D.zan a0).2) r (fun R=>zb1 r (vs:=#[(aq (zps (D.zan a0).1)),(.bool (D.zan a0).2)]) rfl rfl) rfl fun fr r=>?_;refine za7 (.cells ((zps (⟨0,0,0⟩:State))).toArray 190 (0,0)) r (fun R=>za6 zqj) rfl fun fr b5 w6 n7 r=>?_
 have H1:=keep n7.below H1;obtain ⟨E5,Z6,H5,hB,zB⟩:=n7.all hB;refine zaD (.cells ((zps ((D.zan a0).1))).toArray 190 (0,0)) r (fun R=>zax r (o:=0) (v:=(aq (zps (D.zan a0).1))) rfl rfl H5 zqd ak rfl rfl) rfl fun fr w8 u9 r=>?_;have Z8:=u9.size
 have H1:=u9.keep H1 kw
 have H5:=u9.at_;obtain ⟨hB,zB⟩:=u9.on hB kw
 refine kA (.bool (D.zan a0).2) r rfl rfl fun r=>wn (wsr (za0 (aq (zps (D.zan a0).1)) r (fun R=>zac r (cs:=(zps ((D.zan a0).1))) (n:=3) rfl H5 zq9 rfl) rfl fun fr r=>kF 0 r rfl zob rfl fun r=>kL (I c0.gen) r rfl (keep hB c0h) to3 rfl rfl fun r=>?_));refine kE r (zhJ w8 ((D.zan a0).1) c0.gen) rfl zto rfl fun w10 hb r=>?_
 have Z10:=hb.size;have H1:=keep hb H1;have H5:=keep hb H5;obtain ⟨hB,zB⟩:=bon hb hB;refine za7 (.cells ((zps (⟨0,0,0⟩:State))).toArray 190 (0,0)) r (fun R=>za6 zqj) rfl fun fr b11 w12 n13 r=>?_;have H1:=keep n13.below H1
 have H5:=keep n13.below H5;obtain ⟨E11,Z12,H11,hB,zB⟩:=n13.all hB;refine zaD (.cells ((zps (D.zag ((D.zan a0).1) c0.gen))).toArray 190 (0,0)) r (fun R=>zax r (o:=0) (v:=(.agg (zps (D.zag ((D.zan a0).1) c0.gen)).toArray)) rfl rfl H11 zqd ak rfl rfl) rfl fun fr w14 u15 r=>?_;have Z14:=u15.size
 have H1:=u15.keep H1 kw
 have H5:=u15.keep H5 kw
 have H11:=u15.at_;obtain ⟨hB,zB⟩:=u15.on hB kw
 refine wn (aa ?_);refine zaB 6 [.val (aq (zpg c0)),.val (I c1),.val (I (D.zaJ c0 c1)),.val (.agg (zps (D.zag ((D.zan a0).1) c0.gen)).toArray),.val (U (D.zak (D.zag ((D.zan a0).1) c0.gen))),.val (.func (.func 309) #[] #[zp b11,zp c0b,zp c1b])] mixed r kz (kV (kV (kV (kV (kV (kV zat)))))) ?_ ?_
 ·
  refine ec r (fun _ u _ b d s=>zac s (cs:=(zpg c0)) (n:=6) rfl (zpW hB b c0h) ta23 rfl bz) (ec r (fun _ u _ b d s=>za4 s rfl (zpW hB b c1h) to3 rfl bz) (ec r (fun fr1 u w' hb' hd r'=>zaF r' (args:=[(aq (zpg c0)),(I c1)]) (lc hd.1 (lc hd.2.1 l0)) zqw ((zbX _ c0 c1).mono yab)) (ec r (fun _ u _ b d s=>zac s (cs:=(zps (D.zag ((D.zan a0).1) c0.gen))) (n:=3) rfl (keep b H11) zq9 rfl bz) (ec r (fun fr1 u w' hb' hd r'=>zaF r' (args:=[(.agg (zps (D.zag ((D.zan a0).1) c0.gen)).toArray)]) (lc hd.1 l0) zre ((zc6 _ (D.zag ((D.zan a0).1) c0.gen)).mono yab)) (ec r (fun _ u _ b d s=>zaf s (v:=(.func (.func 309) #[] #[zp b11,zp c0b,zp c1b])) rfl bz) ?_)))));exact zaO
 intro fr u w16 hb hΦ hne r;have r:=r.congr (sc (hΦ 5 ke) (sc (hΦ 4 ke) (sc (hΦ 3 ke) (sc (hΦ 2 ke) (sc (hΦ 1 ke) (sc (hΦ 0 ke) rfl))))));have Z16:=hb.size;have H1:=keep hb H1;have H5:=keep hb H5;have H11:=keep hb H11;obtain ⟨hB,zB⟩:=bon hb hB;have hF1:=zpz hF hB b1;have f17:((kW F w0 w16 b1)) b11:=(.inr ⟨kw,kw,kw⟩)
 have f18:((kW F w0 w16 b1)) c0b:=(.inl c0F);have f19:((kW F w0 w16 b1)) c1b:=(.inl c1F);refine kD r (zbB (F:=(kW F w0 w16 b1)) (n:=n) hF1 (D.zaJ c0 c1) (D.zak (D.zag ((D.zan a0).1) c0.gen)) ⟨309,[],[zp b11,zp c0b,zp c1b],zu1,rfl,fun m hm _ w' hs hz=>zgn (j:=j) (fun b hb=>ai (hF1 b hb) hz) kw (D.zag ((D.zan a0).1) c0.gen) f17 (hs.at_ f17 H11) c0 f18 (hs.at_ f18 (keep hB c0h)) c1 f19 (hs.at_ f19 (keep hB c1h))⟩) rfl zqn rfl fun w20 v21 hb hr22 r=>?_;have Z20:=hb.size
 have H1:=keep hb H1;have H5:=keep hb H5;have H11:=keep hb H11;obtain ⟨hB,zB⟩:=bon hb hB;refine kP r hr22.shape rfl rfl H1 zpN rfl rfl fun w23 u24 r=>?_;have Z23:=u24.size
 have H5:=u24.keep H5 kw
 have H11:=u24.keep H11 kw
 have H1:=u24.at_;obtain ⟨hB,zB⟩:=u24.on hB kw
 exact wn (ac (kR r hr22 rfl rfl H1 rfl zpM hF hB u24 kw kw kw))
def D.zeA (j:Nat) (c0:Plan) (c1:Int):T Int:=(D.zb2 (D.zaJ c0 c1) (fun x=>(D.ze9 j c0 c1 x)))
theorem zi8 (hF:kH F w0) (hj:n<j)
    (c0:Plan) {c0b:Nat} (c0F:F c0b) (c0h:w0.heap[c0b]?=some (.cells ((zpg c0)).toArray 23 (0,0))) (c1:Int) {c1b:Nat} (c1F:F c1b) (c1h:w0.heap[c1b]?=some (.cells ([(.int .i64 c1)]).toArray 3 (0,0))) :
    Calls ar 306 #[zp c0b,zp c1b] w0 (zpp ar zpl n (D.zeA j c0 c1) F w0):=by
 refine kN Tryz.func306 rfl 8 rfl rfl fun fr r hB=>?_;have lc0b:=ah c0h
 have lc1b:=ah c1h;refine wsr ?_;refine za7 (.cells (kq zpl) 119 (0,0)) r (fun R=>za6 zpQ) rfl fun fr b1 w2 n3 r=>?_;obtain ⟨E1,Z2,H1,hB,zB⟩:=n3.all hB
 refine wn (wsr (kG (zpg c0) 6 r rfl (keep hB c0h) ta23 rfl rfl fun r=>kL (I c1) r rfl (keep hB c1h) to3 rfl rfl fun r=>?_));refine kE r (zbX w2 c0 c1) rfl zqw rfl fun w4 hb r=>?_
 have Z4:=hb.size;have H1:=keep hb H1;obtain ⟨hB,zB⟩:=bon hb hB;refine za0 (.func (.func 307) #[] #[zp c0b,zp c1b]) r (fun R=>zaf r rfl) rfl fun fr r=>?_;have hF1:=zpz hF hB b1
 have f5:((kW F w0 w4 b1)) c0b:=(.inl c0F);have f6:((kW F w0 w4 b1)) c1b:=(.inl c1F);refine kD r (zbz (F:=(kW F w0 w4 b1)) (n:=n) hF1 (D.zaJ c0 c1) ⟨307,[],[zp c0b,zp c1b],ztu,rfl,fun m hm x w' hs hz=>zho (j:=j) (fun b hb=>ai (hF1 b hb) hz) kw c0 f5 (hs.at_ f5 (keep hB c0h)) c1 f6 (hs.at_ f6 (keep hB c1h)) x⟩) rfl zqh rfl fun w7 v8 hb hr9 r=>?_;have Z7:=hb.size
 have H1:=keep hb H1;obtain ⟨hB,zB⟩:=bon hb hB;refine kP r hr9.shape rfl rfl H1 zpN rfl rfl fun w10 u11 r=>?_;have Z10:=u11.size
 have H1:=u11.at_;obtain ⟨hB,zB⟩:=u11.on hB kw
 exact wn (ac (kR r hr9 rfl rfl H1 rfl zpM hF hB u11 kw kw kw))
def D.zcy (j:Nat) (a0:Plan) (a1:Int):T Int:=(D.zbQ j a0 a1 0 (fun _=>(D.zeA j a0 a1)))
theorem zgj (hF:kH F w0) (hj:n<j)
    (a0:Plan) (a1:Int) :
    Calls ar 240 #[aq (zpg a0),.int .i64 a1] w0 (zpp ar zpl n (D.zcy j a0 a1) F w0):=by
 refine kN Tryz.func240 rfl 9 rfl rfl fun fr r hB=>?_;refine wsr ?_
 refine kX 23 (aq (zpg a0)) r rfl rfl fun b1 w2 n3 r=>?_;obtain ⟨E1,Z2,H1,hB,zB⟩:=n3.all hB
 refine kX 3 (I a1) r rfl rfl fun b4 w5 n6 r=>?_;have H1:=keep n6.below H1
 obtain ⟨E4,Z5,H4,hB,zB⟩:=n6.all hB;refine za7 (.cells (kq zpl) 119 (0,0)) r (fun R=>za6 zpQ) rfl fun fr b7 w8 n9 r=>?_;have H1:=keep n9.below H1
 have H4:=keep n9.below H4;obtain ⟨E7,Z8,H7,hB,zB⟩:=n9.all hB;refine wn (wsr (kG (zpg a0) 6 r rfl H1 ta23 rfl rfl fun r=>kL (I a1) r rfl H4 to3 rfl rfl fun r=>za0 (.func (.func 306) #[] #[zp b1,zp b4]) r (fun R=>zaf r rfl) rfl fun fr r=>?_));have hF1:=zpz hF hB b7
 have f10:((kW F w0 w8 b7)) b1:=(.inr ⟨kw,kw,kw⟩)
 have f11:((kW F w0 w8 b7)) b4:=(.inr ⟨kw,kw,kw⟩)
 refine kD r ((zkJ (k:=j) (n:=n) kw) (kW F w0 w8 b7) _ hF1 a0 a1 0 ⟨306,[],[zp b1,zp b4],zsL,rfl,fun m hm _ w' hs hz=>zi8 (j:=j) (fun b hb=>ai (hF1 b hb) hz) kw a0 f10 (hs.at_ f10 H1) a1 f11 (hs.at_ f11 H4)⟩) rfl zrM rfl fun w12 v13 hb hr14 r=>?_;have Z12:=hb.size
 have H1:=keep hb H1;have H4:=keep hb H4;have H7:=keep hb H7;obtain ⟨hB,zB⟩:=bon hb hB;refine kP r hr14.shape rfl rfl H7 zpN rfl rfl fun w15 u16 r=>?_;have Z15:=u16.size
 have H1:=u16.keep H1 kw
 have H4:=u16.keep H4 kw
 have H7:=u16.at_;obtain ⟨hB,zB⟩:=u16.on hB kw
 exact wn (ac (kR r hr14 rfl rfl H7 rfl zpM hF hB u16 kw kw kw))
def D.zdo (c0:Plan) (c1:Int) (c2:Scan) (c3:(Unit→T Int)) (a0:Int):T Int:=(D.zb5 (D.zaM c0 c1 c2.at_) a0 c3)
theorem zi2 (hF:kH F w0)
    (c0:Plan) {c0b:Nat} (c0F:F c0b) (c0h:w0.heap[c0b]?=some (.cells ((zpg c0)).toArray 23 (0,0))) (c1:Int) {c1b:Nat} (c1F:F c1b) (c1h:w0.heap[c1b]?=some (.cells ([(.int .i64 c1)]).toArray 3 (0,0))) (c2:Scan) {c2b:Nat} (c2F:F c2b) (c2h:w0.heap[c2b]?=some (.cells ((scanC c2)).toArray 293 (0,0))) {c3f:FuncId} {c3_1 c3_2:List Value} {c3:(Unit→T Int)} {c3b:Nat} (c3F:F c3b) (c3h:w0.heap[c3b]?=some (.cells #[kf c3f c3_1 c3_2] 239 (0,0))) (c3n:FnT ar zpl unitE (n+1) F w0 (kf c3f c3_1 c3_2) c3) (a0:Int) :
    Calls ar 384 #[.int .u64 a0,zp c0b,zp c1b,zp c2b,zp c3b] w0 (zpp ar zpl n (D.zdo c0 c1 c2 c3 a0) F w0):=by
 refine kN Tryz.func384 rfl 15 rfl rfl fun fr r hB=>?_;have lc0b:=ah c0h
 have lc1b:=ah c1h;have lc2b:=ah c2h;have lc3b:=ah c3h;refine wsr ?_;refine za7 (.cells (kq zpl) 119 (0,0)) r (fun R=>za6 zpQ) rfl fun fr b1 w2 n3 r=>?_;obtain ⟨E1,Z2,H1,hB,zB⟩:=n3.all hB
 refine wn (aa ?_);refine zaB 7 [.val (aq (zpg c0)),.val (I c1),.val (zp c2b),.val (I c2.at_),.val (I (D.zaM c0 c1 c2.at_)),.val (U a0),.val (kf c3f c3_1 c3_2)] mixed r kz (kV (kV (kV (kV (kV (kV (kV zat))))))) ?_ ?_
 ·
  refine ec r (fun _ u _ b d s=>zac s (cs:=(zpg c0)) (n:=6) rfl (zpW hB b c0h) ta23 rfl bz) (ec r (fun _ u _ b d s=>za4 s rfl (zpW hB b c1h) to3 rfl bz) (ec r (fun _ u _ b d s=>za3 s (b:=c2b) (o:=0) rfl ziA bz) (ec r (fun _ u _ b d s=>za4 s d.1 (zpW hB b c2h) to3 rfl bz) (ec r (fun fr1 u w' hb' hd r'=>zaF r' (args:=[(aq (zpg c0)),(I c1),(I c2.at_)]) (lc hd.1 (lc hd.2.1 (lc hd.2.2.1 l0))) zqU ((zcr _ c0 c1 c2.at_).mono yab)) (ec r (fun _ u _ b d s=>zar s rfl bz) (ec r (fun _ u _ b d s=>za4 s rfl (zpW hB b c3h) zqE rfl bz) ?_))))));exact zaO
 intro fr u w4 hb hΦ hne r;have r:=r.congr (sc (hΦ 6 ke) (sc (hΦ 5 ke) (sc (hΦ 4 ke) (sc (hΦ 3 ke) (sc (hΦ 2 ke) (sc (hΦ 1 ke) (sc (hΦ 0 ke) rfl)))))));have Z4:=hb.size;have H1:=keep hb H1;obtain ⟨hB,zB⟩:=bon hb hB;have hF1:=zpz hF hB b1;refine kD r (zbB (F:=(kW F w0 w4 b1)) (n:=n) hF1 (D.zaM c0 c1 c2.at_) a0 (c3n.mono kw (fun b h=>.inl h) (Same.below hB hF) hB.size)) rfl zqn rfl fun w5 v6 hb hr7 r=>?_;have Z5:=hb.size
 have H1:=keep hb H1;obtain ⟨hB,zB⟩:=bon hb hB;refine kP r hr7.shape rfl rfl H1 zpN rfl rfl fun w8 u9 r=>?_;have Z8:=u9.size
 have H1:=u9.at_;obtain ⟨hB,zB⟩:=u9.on hB kw
 exact wn (ac (kR r hr7 rfl rfl H1 rfl zpM hF hB u9 kw kw kw))
def D.zcg (j:Nat) (av:Plan→Int→Scan→T Int) (c0:Plan) (c1:Int) (c2:Scan) (c3:Int) (a0:Int):T Int:=(av c0 c1 (⟨(IntKind.i64.wrap (c2.at_ - 1)),c3,(IntKind.i64.wrap (c2.done+1))⟩:Scan))
def D.ze0 (j:Nat) (av:Plan→Int→Scan→T Int) (c0:Plan) (c1:Int) (c2:Int) (c3:Scan) (c4:Int):T Int:=(T.bind (D.zcy j c0 c1) (fun x=>(D.zcg j av c0 c2 c3 c4 x)))
def D.zbt (j:Nat) (av:Plan→Int→Scan→T Int) (c0:Plan) (c1:Int) (c2:Int) (c3:Int) (c4:Scan):T Int:=(D.zb5 (D.zb3 c0 c1) (IntKind.u64.wrap c2) (fun _=>(D.ze0 j av c0 c3 c1 c4 c2)))
def D.zce (j:Nat) (av:Plan→Int→Scan→T Int) (a0:Plan) (a1:Int) (a2:Scan) (a3:Int):T Int:=(bif (a2.at_==(IntKind.i64.wrap (a2.left - 1))) then ((fun _=>(D.zbt j av a0 a1 (IntKind.i64.wrap (a2.left - 1)) a3 a2)) ()) else (D.zb2 (D.zaM a0 a1 (IntKind.i64.wrap (a2.left - 1))) (fun x=>(D.zdo a0 a1 a2 (fun _=>(D.zbt j av a0 a1 (IntKind.i64.wrap (a2.left - 1)) a3 a2)) x))))
def D.zba (j:Nat) (av:Plan→Int→Scan→T Int) (c0:Plan) (c1:Int) (c2:Scan) (c3:Scan) (c4:Int) (a0:Bool):T Int:=(bif a0 then (av c0 c1 c2) else (D.zce j av c0 c1 c3 (IntKind.i64.wrap ((IntKind.i64.wrap c4) - 1))))
def D.zbR (j:Nat) (av:Plan→Int→Scan→T Int) (c0:Plan) (c1:Int) (c2:Scan) (c3:Scan) (a0:Int):T Int:=(bif (decide (a0<1)) then (av c0 c1 c2) else (bif (decide (a0 > (IntKind.u64.wrap c0.nodes))) then (av c0 c1 c2) else (T.bind (D.zg6 j c0 (IntKind.i64.wrap ((IntKind.i64.wrap a0) - 1))) (fun x=>(D.zba j av c0 c1 c2 c3 a0 x)))))
def D.zbf (j:Nat) (av:Plan→Int→Scan→T Int) (a0:Plan) (a1:Int) (a2:Scan):T Int:=(bif (decide (a2.at_<0)) then (D.zaR a2.done) else (D.zb2 (D.zaM a0 a1 a2.at_) (fun x=>(D.zbR j av a0 a1 (⟨(IntKind.i64.wrap (a2.at_ - 1)),a2.left,a2.done⟩:Scan) a2 x))))
def D.zb6 (j:Nat):Nat→Plan→Int→Scan→T Int
 | 0,_,_,_=>.cut
 | k+1,a0,a1,a2=>D.zbf j (D.zb6 j k) a0 a1 a2
def zbg (r:Plan→Int→Scan→T Int) (n:Nat):Prop:=∀ (F:Nat→Prop) (w0:World),(∀ b,F b→b<w0.heap.size)→∀ (a0:Plan) (a1:Int) (a2:Scan),Calls ar 282 #[aq (zpg a0),.int .i64 a1,aq (scanC a2)] w0 (zpp ar zpl n (r a0 a1 a2) F w0)
theorem zgt {av:Plan→Int→Scan→T Int} (hF:kH F w0) (hj:n<j) (ax:∀ m,m≤n→zbg av m)
    (c0:Plan) {c0b:Nat} (c0F:F c0b) (c0h:w0.heap[c0b]?=some (.cells ((zpg c0)).toArray 23 (0,0))) (c1:Int) {c1b:Nat} (c1F:F c1b) (c1h:w0.heap[c1b]?=some (.cells ([(.int .i64 c1)]).toArray 3 (0,0))) (c2:Scan) {c2b:Nat} (c2F:F c2b) (c2h:w0.heap[c2b]?=some (.cells ((scanC c2)).toArray 293 (0,0))) (c3:Int) {c3b:Nat} (c3F:F c3b) (c3h:w0.heap[c3b]?=some (.cells ([(.int .i64 c3)]).toArray 3 (0,0))) (a0:Int) :
    Calls ar 383 #[.int .i64 a0,zp c0b,zp c1b,zp c2b,zp c3b] w0 (zpp ar zpl n (D.zcg j av c0 c1 c2 c3 a0) F w0):=by
 refine kN Tryz.func383 rfl 18 rfl rfl fun fr r hB=>?_;have lc0b:=ah c0h
 have lc1b:=ah c1h;have lc2b:=ah c2h;have lc3b:=ah c3h;refine wsr ?_;refine za7 (.cells (kq zpl) 119 (0,0)) r (fun R=>za6 zpQ) rfl fun fr b1 w2 n3 r=>?_;obtain ⟨E1,Z2,H1,hB,zB⟩:=n3.all hB
 refine wn (wsr (kG (zpg c0) 6 r rfl (keep hB c0h) ta23 rfl rfl fun r=>kL (I c1) r rfl (keep hB c1h) to3 rfl rfl fun r=>kF 0 r rfl ziA rfl fun r=>kL (I c2.at_) r rfl (keep hB c2h) to3 rfl rfl fun r=>kB r rfl rfl rfl rfl rfl fun r=>kL (I c3) r rfl (keep hB c3h) to3 rfl rfl fun r=>kF 0 r rfl zlL rfl fun r=>kL (I c2.done) r rfl (keep hB c2h) to3 rfl rfl fun r=>kB r rfl rfl rfl rfl rfl fun r=>kU (.agg (scanC (⟨(W (c2.at_ - 1)),c3,(W (c2.done+1))⟩:Scan)).toArray) r kz rfl fun r=>?_));have hF1:=zpz hF hB b1
 refine kD r ((ax n kw) (kW F w0 w2 b1) _ hF1 c0 c1 (⟨(W (c2.at_ - 1)),c3,(W (c2.done+1))⟩:Scan)) rfl zqA rfl fun w4 v5 hb hr6 r=>?_;have Z4:=hb.size
 have H1:=keep hb H1;obtain ⟨hB,zB⟩:=bon hb hB;refine kP r hr6.shape rfl rfl H1 zpN rfl rfl fun w7 u8 r=>?_;have Z7:=u8.size
 have H1:=u8.at_;obtain ⟨hB,zB⟩:=u8.on hB kw
 exact wn (ac (kR r hr6 rfl rfl H1 rfl zpM hF hB u8 kw kw kw))
theorem zhp {av:Plan→Int→Scan→T Int} (hF:kH F w0) (hj:n<j) (ax:∀ m,m<n→zbg av m)
    (c0:Plan) {c0b:Nat} (c0F:F c0b) (c0h:w0.heap[c0b]?=some (.cells ((zpg c0)).toArray 23 (0,0))) (c1:Int) {c1b:Nat} (c1F:F c1b) (c1h:w0.heap[c1b]?=some (.cells ([(.int .i64 c1)]).toArray 3 (0,0))) (c2:Int) {c2b:Nat} (c2F:F c2b) (c2h:w0.heap[c2b]?=some (.cells ([(.int .i64 c2)]).toArray 3 (0,0))) (c3:Scan) {c3b:Nat} (c3F:F c3b) (c3h:w0.heap[c3b]?=some (.cells ((scanC c3)).toArray 293 (0,0))) (c4:Int) {c4b:Nat} (c4F:F c4b) (c4h:w0.heap[c4b]?=some (.cells ([(.int .i64 c4)]).toArray 3 (0,0))) :
    Calls ar 382 #[zp c0b,zp c1b,zp c2b,zp c3b,zp c4b] w0 (zpp ar zpl n (D.ze0 j av c0 c1 c2 c3 c4) F w0):=by
 refine kN Tryz.func382 rfl 11 rfl rfl fun fr r hB=>?_;have lc0b:=ah c0h
 have lc1b:=ah c1h;have lc2b:=ah c2h;have lc3b:=ah c3h;have lc4b:=ah c4h;refine wsr ?_;refine za7 (.cells (kq zpl) 119 (0,0)) r (fun R=>za6 zpQ) rfl fun fr b1 w2 n3 r=>?_;obtain ⟨E1,Z2,H1,hB,zB⟩:=n3.all hB
 refine wn (wsr (kG (zpg c0) 6 r rfl (keep hB c0h) ta23 rfl rfl fun r=>kL (I c1) r rfl (keep hB c1h) to3 rfl rfl fun r=>?_));have hF1:=zpz hF hB b1
 refine kD r (zgj (j:=j) (F:=(kW F w0 w2 b1)) (n:=n) hF1 kw c0 c1) rfl zsF rfl fun w4 v5 hb hr6 r=>?_;have Z4:=hb.size
 have H1:=keep hb H1;obtain ⟨hB,zB⟩:=bon hb hB;refine za0 (.func (.func 383) #[] #[zp c0b,zp c2b,zp c3b,zp c4b]) r (fun R=>zaf r rfl) rfl fun fr r=>?_;have hF1:=zpz hF hB b1
 have f7:((kW F w0 w4 b1)) c0b:=(.inl c0F);have f8:((kW F w0 w4 b1)) c2b:=(.inl c2F);have f9:((kW F w0 w4 b1)) c3b:=(.inl c3F);have f10:((kW F w0 w4 b1)) c4b:=(.inl c4F);refine kD r (zgq (F:=(kW F w0 w4 b1)) (n:=n) hF1 (Rep.mono yae (Same.refl _ _) kw n _ _ hr6) ⟨383,[],[zp c0b,zp c2b,zp c3b,zp c4b],zu8,rfl,fun m hm x w' hs hz=>zgt (j:=j) (fun b hb=>ai (hF1 b hb) hz) kw (fun m' hm'=>ax m' kw) c0 f7 (hs.at_ f7 (keep hB c0h)) c2 f8 (hs.at_ f8 (keep hB c2h)) c3 f9 (hs.at_ f9 (keep hB c3h)) c4 f10 (hs.at_ f10 (keep hB c4h)) x⟩ (by first | rfl | (cases j with | zero=>omega | succ q=>rfl))) rfl zqJ rfl fun w11 v12 hb hr13 r=>?_
 have Z11:=hb.size;have H1:=keep hb H1;obtain ⟨hB,zB⟩:=bon hb hB;refine kP r hr13.shape rfl rfl H1 zpN rfl rfl fun w14 u15 r=>?_;have Z14:=u15.size
 have H1:=u15.at_;obtain ⟨hB,zB⟩:=u15.on hB kw
 exact wn (ac (kR r hr13 rfl rfl H1 rfl zpM hF hB u15 kw kw kw))
theorem zfh {av:Plan→Int→Scan→T Int} (hF:kH F w0) (hj:n<j) (ax:∀ m,m<n→zbg av m)
    (c0:Plan) {c0b:Nat} (c0F:F c0b) (c0h:w0.heap[c0b]?=some (.cells ((zpg c0)).toArray 23 (0,0))) (c1:Int) {c1b:Nat} (c1F:F c1b) (c1h:w0.heap[c1b]?=some (.cells ([(.int .i64 c1)]).toArray 3 (0,0))) (c2:Int) {c2b:Nat} (c2F:F c2b) (c2h:w0.heap[c2b]?=some (.cells ([(.int .i64 c2)]).toArray 3 (0,0))) (c3:Int) {c3b:Nat} (c3F:F c3b) (c3h:w0.heap[c3b]?=some (.cells ([(.int .i64 c3)]).toArray 3 (0,0))) (c4:Scan) {c4b:Nat} (c4F:F c4b) (c4h:w0.heap[c4b]?=some (.cells ((scanC c4)).toArray 293 (0,0))) :
    Calls ar 381 #[zp c0b,zp c1b,zp c2b,zp c3b,zp c4b] w0 (zpp ar zpl n (D.zbt j av c0 c1 c2 c3 c4) F w0):=by
 refine kN Tryz.func381 rfl 13 rfl rfl fun fr r hB=>?_;have lc0b:=ah c0h
 have lc1b:=ah c1h;have lc2b:=ah c2h;have lc3b:=ah c3h;have lc4b:=ah c4h;refine wsr ?_;refine za7 (.cells (kq zpl) 119 (0,0)) r (fun R=>za6 zpQ) rfl fun fr b1 w2 n3 r=>?_;obtain ⟨E1,Z2,H1,hB,zB⟩:=n3.all hB
 refine wn (aa ?_);refine zaB 6 [.val (aq (zpg c0)),.val (I c1),.val (I (D.zb3 c0 c1)),.val (I c2),.val (U (V c2)),.val (.func (.func 382) #[] #[zp c0b,zp c3b,zp c1b,zp c4b,zp c2b])] mixed r kz (kV (kV (kV (kV (kV (kV zat)))))) ?_ ?_
 ·
  refine ec r (fun _ u _ b d s=>zac s (cs:=(zpg c0)) (n:=6) rfl (zpW hB b c0h) ta23 rfl bz) (ec r (fun _ u _ b d s=>za4 s rfl (zpW hB b c1h) to3 rfl bz) (ec r (fun fr1 u w' hb' hd r'=>zaF r' (args:=[(aq (zpg c0)),(I c1)]) (lc hd.1 (lc hd.2.1 l0)) zr6 ((zcY _ c0 c1).mono yab)) (ec r (fun _ u _ b d s=>za4 s rfl (zpW hB b c2h) to3 rfl bz) (ec r (fun _ u _ b d s=>zb9 s (n:=c2) d.1 ti3 ti34 bz) (ec r (fun _ u _ b d s=>zaf s (v:=(.func (.func 382) #[] #[zp c0b,zp c3b,zp c1b,zp c4b,zp c2b])) rfl bz) ?_)))));exact zaO
 intro fr u w4 hb hΦ hne r;have r:=r.congr (sc (hΦ 5 ke) (sc (hΦ 4 ke) (sc (hΦ 3 ke) (sc (hΦ 2 ke) (sc (hΦ 1 ke) (sc (hΦ 0 ke) rfl))))));have Z4:=hb.size;have H1:=keep hb H1;obtain ⟨hB,zB⟩:=bon hb hB;have hF1:=zpz hF hB b1;have f5:((kW F w0 w4 b1)) c0b:=(.inl c0F);have f6:((kW F w0 w4 b1)) c3b:=(.inl c3F);have f7:((kW F w0 w4 b1)) c1b:=(.inl c1F);have f8:((kW F w0 w4 b1)) c4b:=(.inl c4F);have f9:((kW F w0 w4 b1)) c2b:=(.inl c2F);refine kD r (zbB (F:=(kW F w0 w4 b1)) (n:=n) hF1 (D.zb3 c0 c1) (V c2) ⟨382,[],[zp c0b,zp c3b,zp c1b,zp c4b,zp c2b],zt3,rfl,fun m hm _ w' hs hz=>zhp (j:=j) (fun b hb=>ai (hF1 b hb) hz) kw (fun m' hm'=>ax m' kw) c0 f5 (hs.at_ f5 (keep hB c0h)) c3 f6 (hs.at_ f6 (keep hB c3h)) c1 f7 (hs.at_ f7 (keep hB c1h)) c4 f8 (hs.at_ f8 (keep hB c4h)) c2 f9 (hs.at_ f9 (keep hB c2h))⟩) rfl zqn rfl fun w10 v11 hb hr12 r=>?_;have Z10:=hb.size
 have H1:=keep hb H1;obtain ⟨hB,zB⟩:=bon hb hB;refine kP r hr12.shape rfl rfl H1 zpN rfl rfl fun w13 u14 r=>?_;have Z13:=u14.size
 have H1:=u14.at_;obtain ⟨hB,zB⟩:=u14.on hB kw
 exact wn (ac (kR r hr12 rfl rfl H1 rfl zpM hF hB u14 kw kw kw))
theorem zj8 {av:Plan→Int→Scan→T Int} (hF:kH F w0) (hj:n<j) (ax:∀ m,m<n→zbg av m)
    (a0:Plan) (a1:Int) (a2:Scan) (a3:Int) :
    Calls ar 351 #[aq (zpg a0),.int .i64 a1,aq (scanC a2),.int .i64 a3] w0 (zpp ar zpl n (D.zce j av a0 a1 a2 a3) F w0):=by
 refine kN Tryz.func351 rfl 27 rfl rfl fun fr r hB=>?_;refine wsr ?_
 refine kX 23 (aq (zpg a0)) r rfl rfl fun b1 w2 n3 r=>?_;obtain ⟨E1,Z2,H1,hB,zB⟩:=n3.all hB
 refine kX 3 (I a1) r rfl rfl fun b4 w5 n6 r=>?_;have H1:=keep n6.below H1
 obtain ⟨E4,Z5,H4,hB,zB⟩:=n6.all hB;refine kX 293 (aq (scanC a2)) r rfl rfl fun b7 w8 n9 r=>?_;have H1:=keep n9.below H1
 have H4:=keep n9.below H4;obtain ⟨E7,Z8,H7,hB,zB⟩:=n9.all hB;refine kX 3 (I a3) r rfl rfl fun b10 w11 n12 r=>?_;have H1:=keep n12.below H1
 have H4:=keep n12.below H4;have H7:=keep n12.below H7;obtain ⟨E10,Z11,H10,hB,zB⟩:=n12.all hB;refine za7 (.cells (kq zpl) 119 (0,0)) r (fun R=>za6 zpQ) rfl fun fr b13 w14 n15 r=>?_;have H1:=keep n15.below H1
 have H4:=keep n15.below H4;have H7:=keep n15.below H7;have H10:=keep n15.below H10;obtain ⟨E13,Z14,H13,hB,zB⟩:=n15.all hB;refine wn (wsr (kF 0 r rfl zn2 rfl fun r=>kL (I a2.left) r rfl H7 to3 rfl rfl fun r=>kB r rfl rfl rfl rfl rfl fun r=>?_));refine za7 (.cells #[(I 0)] 3 (0,0)) r (fun R=>za6 tz3) rfl fun fr b16 w17 n18 r=>?_
 have H1:=keep n18.below H1;have H4:=keep n18.below H4;have H7:=keep n18.below H7;have H10:=keep n18.below H10;have H13:=keep n18.below H13;obtain ⟨E16,Z17,H16,hB,zB⟩:=n18.all hB;refine zaD (.cells #[(I (W (a2.left - 1)))] 3 (0,0)) r (fun R=>zax r (o:=0) (v:=(I (W (a2.left - 1)))) rfl rfl H16 ts3 ak rfl rfl) rfl fun fr w19 u20 r=>?_;have Z19:=u20.size
 have H1:=u20.keep H1 kw
 have H4:=u20.keep H4 kw
 have H7:=u20.keep H7 kw
 have H10:=u20.keep H10 kw
 have H13:=u20.keep H13 kw
 have H16:=u20.at_;obtain ⟨hB,zB⟩:=u20.on hB kw
 refine wn (wsr (za0 (.func (.func 381) #[] #[zp b1,zp b4,zp b16,zp b10,zp b7]) r (fun R=>zaf r rfl) rfl fun fr r=>?_));refine za7 (.cells #[.nilFunc] 239 (0,0)) r (fun R=>za6 zuC) rfl fun fr b21 w22 n23 r=>?_
 have H1:=keep n23.below H1;have H4:=keep n23.below H4;have H7:=keep n23.below H7;have H10:=keep n23.below H10;have H13:=keep n23.below H13;have H16:=keep n23.below H16;obtain ⟨E21,Z22,H21,hB,zB⟩:=n23.all hB;refine zaD (.cells #[.func (.func 381) #[] #[zp b1,zp b4,zp b16,zp b10,zp b7]] 239 (0,0)) r (fun R=>zax r (o:=0) (v:=(.func (.func 381) #[] #[zp b1,zp b4,zp b16,zp b10,zp b7])) rfl rfl H21 zut ak rfl rfl) rfl fun fr w24 u25 r=>?_;have Z24:=u25.size
 have H1:=u25.keep H1 kw
 have H4:=u25.keep H4 kw
 have H7:=u25.keep H7 kw
 have H10:=u25.keep H10 kw
 have H13:=u25.keep H13 kw
 have H16:=u25.keep H16 kw
 have H21:=u25.at_;obtain ⟨hB,zB⟩:=u25.on hB kw
 refine wn (aa (wsr (kF 0 r rfl ziA rfl fun r=>kL (I a2.at_) r rfl H7 to3 rfl rfl fun r=>kL (I (W (a2.left - 1))) r rfl H16 to3 rfl rfl fun r=>kB r rfl rfl rfl rfl rfl fun r=>wn ?_)));refine ae (t:=(a2.at_==(W (a2.left - 1)))) (r.ev rfl) (fun h26=>?_) (fun h26=>?_)
 ·
  refine wsr (kL (.func (.func 381) #[] #[zp b1,zp b4,zp b16,zp b10,zp b7]) r rfl H21 zqE rfl rfl fun r=>?_);have hF1:=zpz hF hB b13
  have f27:((kW F w0 w24 b13)) b1:=(.inr ⟨kw,kw,kw⟩)
  have f28:((kW F w0 w24 b13)) b4:=(.inr ⟨kw,kw,kw⟩)
  have f29:((kW F w0 w24 b13)) b16:=(.inr ⟨kw,kw,kw⟩)
  have f30:((kW F w0 w24 b13)) b10:=(.inr ⟨kw,kw,kw⟩)
  have f31:((kW F w0 w24 b13)) b7:=(.inr ⟨kw,kw,kw⟩)
  have q32:FnT ar zpl unitE (n+1) (kW F w0 w24 b13) w24 (.func (.func 381) #[] #[zp b1,zp b4,zp b16,zp b10,zp b7]) (fun _=>(D.zbt j av a0 a1 (W (a2.left - 1)) a3 a2)):=⟨381,[],[zp b1,zp b4,zp b16,zp b10,zp b7],zrY,rfl,fun m hm _ w' hs hz=>zfh (j:=j) (fun b hb=>ai (hF1 b hb) hz) kw (fun m' hm'=>ax m' kw) a0 f27 (hs.at_ f27 H1) a1 f28 (hs.at_ f28 H4) (W (a2.left - 1)) f29 (hs.at_ f29 H16) a3 f30 (hs.at_ f30 H10) a2 f31 (hs.at_ f31 H7)⟩
  refine zbq r (q32.at_.2 n (Nat.lt_succ_self n) () w24 (Same.refl _ _) (Nat.le_refl _)) (fun R hc=>zfR r rfl q32.at_.1 hc) rfl ?_;rintro _ w33 ⟨v34,rfl,hb,hr35⟩
  refine ⟨_,rfl,fun fr r=>?_⟩
  have Z33:=hb.size;have H1:=keep hb H1;have H4:=keep hb H4;have H7:=keep hb H7;have H10:=keep hb H10;have H13:=keep hb H13;have H16:=keep hb H16;have H21:=keep hb H21;obtain ⟨hB,zB⟩:=bon hb hB;refine kP r hr35.shape rfl rfl H13 zpN rfl rfl fun w36 u37 r=>?_;have Z36:=u37.size
  have H1:=u37.keep H1 kw
  have H4:=u37.keep H4 kw
  have H7:=u37.keep H7 kw
  have H10:=u37.keep H10 kw
  have H16:=u37.keep H16 kw
  have H21:=u37.keep H21 kw
  have H13:=u37.at_;obtain ⟨hB,zB⟩:=u37.on hB kw
  refine wn (ac ?_);have hd:D.zce j av a0 a1 a2 a3=((fun _=>(D.zbt j av a0 a1 (W (a2.left - 1)) a3 a2)) ()):=(zao h26).trans (rfl)
  have hs:=hr35.shape.cells;refine za5 r rfl rfl H13 (k:=7) hs.1 zpM ?_;rw [←hs.2.2,hd];exact rfin hF hB hr35 u37 kw kw kw
 refine ag (wsr (kG (zpg a0) 6 r rfl H1 ta23 rfl rfl fun r=>kL (I a1) r rfl H4 to3 rfl rfl fun r=>kL (I (W (a2.left - 1))) r rfl H16 to3 rfl rfl fun r=>?_));refine kE r (zcr w24 a0 a1 (W (a2.left - 1))) rfl zqU rfl fun w38 hb r=>?_
 have Z38:=hb.size;have H1:=keep hb H1;have H4:=keep hb H4;have H7:=keep hb H7;have H10:=keep hb H10;have H13:=keep hb H13;have H16:=keep hb H16;have H21:=keep hb H21;obtain ⟨hB,zB⟩:=bon hb hB;refine za0 (.func (.func 384) #[] #[zp b1,zp b4,zp b7,zp b21]) r (fun R=>zaf r rfl) rfl fun fr r=>?_;have hF1:=zpz hF hB b13
 have f39:((kW F w0 w38 b13)) b1:=(.inr ⟨kw,kw,kw⟩)
 have f40:((kW F w0 w38 b13)) b4:=(.inr ⟨kw,kw,kw⟩)
 have f41:((kW F w0 w38 b13)) b7:=(.inr ⟨kw,kw,kw⟩)
 have f42:((kW F w0 w38 b13)) b21:=(.inr ⟨kw,kw,kw⟩)
 have f44:((kW F w0 w38 b13)) b1:=(.inr ⟨kw,kw,kw⟩)
 have f45:((kW F w0 w38 b13)) b4:=(.inr ⟨kw,kw,kw⟩)
 have f46:((kW F w0 w38 b13)) b16:=(.inr ⟨kw,kw,kw⟩)
 have f47:((kW F w0 w38 b13)) b10:=(.inr ⟨kw,kw,kw⟩)
 have f48:((kW F w0 w38 b13)) b7:=(.inr ⟨kw,kw,kw⟩)
 have q43:FnT ar zpl unitE (n) (kW F w0 w38 b13) w38 (.func (.func 381) #[] #[zp b1,zp b4,zp b16,zp b10,zp b7]) (fun _=>(D.zbt j av a0 a1 (W (a2.left - 1)) a3 a2)):=⟨381,[],[zp b1,zp b4,zp b16,zp b10,zp b7],zrY,rfl,fun m hm _ w' hs hz=>zfh (j:=j) (fun b hb=>ai (hF1 b hb) hz) kw (fun m' hm'=>ax m' kw) a0 f44 (hs.at_ f44 H1) a1 f45 (hs.at_ f45 H4) (W (a2.left - 1)) f46 (hs.at_ f46 H16) a3 f47 (hs.at_ f47 H10) a2 f48 (hs.at_ f48 H7)⟩
 refine kD r (zbz (F:=(kW F w0 w38 b13)) (n:=n) hF1 (D.zaM a0 a1 (W (a2.left - 1))) ⟨384,[],[zp b1,zp b4,zp b7,zp b21],zu9,rfl,fun m hm x w' hs hz=>zi2 (fun b hb=>ai (hF1 b hb) hz) a0 f39 (hs.at_ f39 H1) a1 f40 (hs.at_ f40 H4) a2 f41 (hs.at_ f41 H7) f42 (hs.at_ f42 H21) (q43.mono kw (fun b h=>h) hs hz) x⟩) rfl zqh rfl fun w49 v50 hb hr51 r=>?_;have Z49:=hb.size
 have H1:=keep hb H1;have H4:=keep hb H4;have H7:=keep hb H7;have H10:=keep hb H10;have H13:=keep hb H13;have H16:=keep hb H16;have H21:=keep hb H21;obtain ⟨hB,zB⟩:=bon hb hB;refine kP r hr51.shape rfl rfl H13 zpN rfl rfl fun w52 u53 r=>?_;have Z52:=u53.size
 have H1:=u53.keep H1 kw
 have H4:=u53.keep H4 kw
 have H7:=u53.keep H7 kw
 have H10:=u53.keep H10 kw
 have H16:=u53.keep H16 kw
 have H21:=u53.keep H21 kw
 have H13:=u53.at_;obtain ⟨hB,zB⟩:=u53.on hB kw
 refine wn (ac ?_);have hd:D.zce j av a0 a1 a2 a3=(D.zb2 (D.zaM a0 a1 (W (a2.left - 1))) (fun x=>(D.zdo a0 a1 a2 (fun _=>(D.zbt j av a0 a1 (W (a2.left - 1)) a3 a2)) x))):=(zaq h26).trans (rfl)
 have hs:=hr51.shape.cells;refine za5 r rfl rfl H13 (k:=7) hs.1 zpM ?_;rw [←hs.2.2,hd];exact rfin hF hB hr51 u53 kw kw kw
theorem zhl {av:Plan→Int→Scan→T Int} (hF:kH F w0) (hj:n<j) (ax:∀ m,m≤n→zbg av m)
    (c0:Plan) {c0b:Nat} (c0F:F c0b) (c0h:w0.heap[c0b]?=some (.cells ((zpg c0)).toArray 23 (0,0))) (c1:Int) {c1b:Nat} (c1F:F c1b) (c1h:w0.heap[c1b]?=some (.cells ([(.int .i64 c1)]).toArray 3 (0,0))) (c2:Scan) {c2b:Nat} (c2F:F c2b) (c2h:w0.heap[c2b]?=some (.cells ((scanC c2)).toArray 293 (0,0))) (c3:Scan) {c3b:Nat} (c3F:F c3b) (c3h:w0.heap[c3b]?=some (.cells ((scanC c3)).toArray 293 (0,0))) (c4:Int) {c4b:Nat} (c4F:F c4b) (c4h:w0.heap[c4b]?=some (.cells ([(.int .u64 c4)]).toArray 34 (0,0))) (a0:Bool) :
    Calls ar 350 #[.bool a0,zp c0b,zp c1b,zp c2b,zp c3b,zp c4b] w0 (zpp ar zpl n (D.zba j av c0 c1 c2 c3 c4 a0) F w0):=by
 refine kN Tryz.func350 rfl 20 rfl rfl fun fr r hB=>?_;have lc0b:=ah c0h
 have lc1b:=ah c1h;have lc2b:=ah c2h;have lc3b:=ah c3h;have lc4b:=ah c4h;refine wsr ?_;refine za7 (.cells (kq zpl) 119 (0,0)) r (fun R=>za6 zpQ) rfl fun fr b1 w2 n3 r=>?_;obtain ⟨E1,Z2,H1,hB,zB⟩:=n3.all hB
 refine wn (aa (wsr (kM (.bool a0) r rfl rfl fun r=>wn ?_)));refine ae (t:=a0) (r.ev rfl) (fun h4=>?_) (fun h4=>?_)
 ·
  refine wsr (kG (zpg c0) 6 r rfl (keep hB c0h) ta23 rfl rfl fun r=>kL (I c1) r rfl (keep hB c1h) to3 rfl rfl fun r=>kG (scanC c2) 3 r rfl (keep hB c2h) zr1 rfl rfl fun r=>?_);have hF1:=zpz hF hB b1
  refine kD r ((ax n kw) (kW F w0 w2 b1) _ hF1 c0 c1 c2) rfl zqA rfl fun w5 v6 hb hr7 r=>?_;have Z5:=hb.size
  have H1:=keep hb H1;obtain ⟨hB,zB⟩:=bon hb hB;refine kP r hr7.shape rfl rfl H1 zpN rfl rfl fun w8 u9 r=>?_;have Z8:=u9.size
  have H1:=u9.at_;obtain ⟨hB,zB⟩:=u9.on hB kw
  refine wn (ac ?_);have hd:D.zba j av c0 c1 c2 c3 c4 a0=(av c0 c1 c2):=(zao h4).trans (rfl);have hs:=hr7.shape.cells;refine za5 r rfl rfl H1 (k:=7) hs.1 zpM ?_;rw [←hs.2.2,hd];exact rfin hF hB hr7 u9 kw kw kw
 refine ag (wsr (kG (zpg c0) 6 r rfl (keep hB c0h) ta23 rfl rfl fun r=>kL (I c1) r rfl (keep hB c1h) to3 rfl rfl fun r=>kG (scanC c3) 3 r rfl (keep hB c3h) zr1 rfl rfl fun r=>kL (U c4) r rfl (keep hB c4h) to34 rfl rfl fun r=>za0 (I (W c4)) r (fun R=>zb9 r rfl ti34 ti3) rfl fun fr r=>kB r rfl rfl rfl rfl rfl fun r=>?_));have hF1:=zpz hF hB b1
 refine kD r (zj8 (j:=j) (F:=(kW F w0 w2 b1)) (n:=n) hF1 kw (fun m' hm'=>ax m' kw) c0 c1 c3 (W ((W c4) - 1))) rfl ztd rfl fun w10 v11 hb hr12 r=>?_;have Z10:=hb.size
 have H1:=keep hb H1;obtain ⟨hB,zB⟩:=bon hb hB;refine kP r hr12.shape rfl rfl H1 zpN rfl rfl fun w13 u14 r=>?_;have Z13:=u14.size
 have H1:=u14.at_;obtain ⟨hB,zB⟩:=u14.on hB kw
 refine wn (ac ?_);have hd:D.zba j av c0 c1 c2 c3 c4 a0=(D.zce j av c0 c1 c3 (W ((W c4) - 1))):=(zaq h4).trans (rfl);have hs:=hr12.shape.cells;refine za5 r rfl rfl H1 (k:=7) hs.1 zpM ?_;rw [←hs.2.2,hd];exact rfin hF hB hr12 u14 kw kw kw
theorem zig {av:Plan→Int→Scan→T Int} (hF:kH F w0) (hj:n<j) (ax:∀ m,m≤n→zbg av m)
    (c0:Plan) {c0b:Nat} (c0F:F c0b) (c0h:w0.heap[c0b]?=some (.cells ((zpg c0)).toArray 23 (0,0))) (c1:Int) {c1b:Nat} (c1F:F c1b) (c1h:w0.heap[c1b]?=some (.cells ([(.int .i64 c1)]).toArray 3 (0,0))) (c2:Scan) {c2b:Nat} (c2F:F c2b) (c2h:w0.heap[c2b]?=some (.cells ((scanC c2)).toArray 293 (0,0))) (c3:Scan) {c3b:Nat} (c3F:F c3b) (c3h:w0.heap[c3b]?=some (.cells ((scanC c3)).toArray 293 (0,0))) (a0:Int) :
    Calls ar 347 #[.int .u64 a0,zp c0b,zp c1b,zp c2b,zp c3b] w0 (zpp ar zpl n (D.zbR j av c0 c1 c2 c3 a0) F w0):=by
 refine kN Tryz.func347 rfl 27 rfl rfl fun fr r hB=>?_;have lc0b:=ah c0h
 have lc1b:=ah c1h;have lc2b:=ah c2h;have lc3b:=ah c3h;refine wsr ?_;refine kX 34 (U a0) r rfl rfl fun b1 w2 n3 r=>?_;obtain ⟨E1,Z2,H1,hB,zB⟩:=n3.all hB
 refine za7 (.cells (kq zpl) 119 (0,0)) r (fun R=>za6 zpQ) rfl fun fr b4 w5 n6 r=>?_;have H1:=keep n6.below H1
 obtain ⟨E4,Z5,H4,hB,zB⟩:=n6.all hB;refine wn (aa (wsr (kL (U a0) r rfl H1 to34 rfl rfl fun r=>kB r rfl rfl rfl rfl rfl fun r=>kM (.bool (decide (a0<1))) r rfl rfl fun r=>?_)));refine zaT (decide (a0<1)) (fun h7=>?_) (fun h7=>?_)
 ·
  refine s0 r h7 fun fr r=>s0 r h7 fun fr r=>s0 r h7 fun fr r=>s0 r h7 fun fr r=>s0 r h7 fun fr r=>za0 (.bool true) r (fun R=>zay r (b:=true) (kb h7) rfl) rfl fun fr r=>wn ?_;refine ae (t:=true) (r.ev rfl) (fun _=>?_) (fun h=>absurd ((rfl:true=_).symm.trans h) ke)
  refine wsr (kG (zpg c0) 6 r rfl (keep hB c0h) ta23 rfl rfl fun r=>kL (I c1) r rfl (keep hB c1h) to3 rfl rfl fun r=>kG (scanC c2) 3 r rfl (keep hB c2h) zr1 rfl rfl fun r=>?_);have hF1:=zpz hF hB b4
  refine kD r ((ax n kw) (kW F w0 w5 b4) _ hF1 c0 c1 c2) rfl zqA rfl fun w8 v9 hb hr10 r=>?_;have Z8:=hb.size
  have H1:=keep hb H1;have H4:=keep hb H4;obtain ⟨hB,zB⟩:=bon hb hB;refine kP r hr10.shape rfl rfl H4 zpN rfl rfl fun w11 u12 r=>?_;have Z11:=u12.size
  have H1:=u12.keep H1 kw
  have H4:=u12.at_;obtain ⟨hB,zB⟩:=u12.on hB kw
  refine wn (ac ?_);have hd:D.zbR j av c0 c1 c2 c3 a0=(av c0 c1 c2):=(zao h7).trans (rfl);have hs:=hr10.shape.cells;refine za5 r rfl rfl H4 (k:=7) hs.1 zpM ?_;rw [←hs.2.2,hd];exact rfin hF hB hr10 u12 kw kw kw
 refine s1 r h7 (kL (U a0) r rfl H1 to34 rfl rfl fun r=>s1 r h7 (kF 0 r rfl ziV rfl fun r=>s1 r h7 (kL (I c0.nodes) r rfl (keep hB c0h) to3 rfl rfl fun r=>s1 r h7 (za0 (U (V c0.nodes)) r (fun R=>zb9 r rfl ti3 ti34) rfl fun fr r=>s1 r h7 (kB r rfl rfl rfl rfl rfl fun r=>za0 (.bool (decide (a0 > (V c0.nodes)))) r (fun R=>zay r (b:=false) (kb h7) rfl) rfl fun fr r=>wn ?_)))));refine ae (t:=(decide (a0 > (V c0.nodes)))) (r.ev rfl) (fun h13=>?_) (fun h13=>?_)
 ·
  refine wsr (kG (zpg c0) 6 r rfl (keep hB c0h) ta23 rfl rfl fun r=>kL (I c1) r rfl (keep hB c1h) to3 rfl rfl fun r=>kG (scanC c2) 3 r rfl (keep hB c2h) zr1 rfl rfl fun r=>?_);have hF1:=zpz hF hB b4
  refine kD r ((ax n kw) (kW F w0 w5 b4) _ hF1 c0 c1 c2) rfl zqA rfl fun w14 v15 hb hr16 r=>?_;have Z14:=hb.size
  have H1:=keep hb H1;have H4:=keep hb H4;obtain ⟨hB,zB⟩:=bon hb hB;refine kP r hr16.shape rfl rfl H4 zpN rfl rfl fun w17 u18 r=>?_;have Z17:=u18.size
  have H1:=u18.keep H1 kw
  have H4:=u18.at_;obtain ⟨hB,zB⟩:=u18.on hB kw
  refine wn (ac ?_);have hd:D.zbR j av c0 c1 c2 c3 a0=(av c0 c1 c2):=(zaq h7).trans ((zao h13).trans (rfl));have hs:=hr16.shape.cells;refine za5 r rfl rfl H4 (k:=7) hs.1 zpM ?_;rw [←hs.2.2,hd];exact rfin hF hB hr16 u18 kw kw kw
 refine ag (wsr (kG (zpg c0) 6 r rfl (keep hB c0h) ta23 rfl rfl fun r=>kL (U a0) r rfl H1 to34 rfl rfl fun r=>za0 (I (W a0)) r (fun R=>zb9 r rfl ti34 ti3) rfl fun fr r=>kB r rfl rfl rfl rfl rfl fun r=>?_));have hF1:=zpz hF hB b4
 refine kD r (zl6 (j:=j) (F:=(kW F w0 w5 b4)) (n:=n) hF1 kw c0 (W ((W a0) - 1))) rfl ztm rfl fun w19 v20 hb hr21 r=>?_;have Z19:=hb.size
 have H1:=keep hb H1;have H4:=keep hb H4;obtain ⟨hB,zB⟩:=bon hb hB;refine za0 (.func (.func 350) #[] #[zp c0b,zp c1b,zp c2b,zp c3b,zp b1]) r (fun R=>zaf r rfl) rfl fun fr r=>?_;have hF1:=zpz hF hB b4
 have f22:((kW F w0 w19 b4)) c0b:=(.inl c0F);have f23:((kW F w0 w19 b4)) c1b:=(.inl c1F);have f24:((kW F w0 w19 b4)) c2b:=(.inl c2F);have f25:((kW F w0 w19 b4)) c3b:=(.inl c3F);have f26:((kW F w0 w19 b4)) b1:=(.inr ⟨kw,kw,kw⟩)
 refine kD r (zfY (F:=(kW F w0 w19 b4)) (n:=n) hF1 (Rep.mono yae (Same.refl _ _) kw n _ _ hr21) ⟨350,[],[zp c0b,zp c1b,zp c2b,zp c3b,zp b1],ztZ,rfl,fun m hm x w' hs hz=>zhl (j:=j) (fun b hb=>ai (hF1 b hb) hz) kw (fun m' hm'=>ax m' kw) c0 f22 (hs.at_ f22 (keep hB c0h)) c1 f23 (hs.at_ f23 (keep hB c1h)) c2 f24 (hs.at_ f24 (keep hB c2h)) c3 f25 (hs.at_ f25 (keep hB c3h)) a0 f26 (hs.at_ f26 H1) x⟩) rfl zsA rfl fun w27 v28 hb hr29 r=>?_
 have Z27:=hb.size;have H1:=keep hb H1;have H4:=keep hb H4;obtain ⟨hB,zB⟩:=bon hb hB;refine kP r hr29.shape rfl rfl H4 zpN rfl rfl fun w30 u31 r=>?_;have Z30:=u31.size
 have H1:=u31.keep H1 kw
 have H4:=u31.at_;obtain ⟨hB,zB⟩:=u31.on hB kw
 refine wn (ac ?_);have hd:D.zbR j av c0 c1 c2 c3 a0=(T.bind (D.zg6 j c0 (W ((W a0) - 1))) (fun x=>(D.zba j av c0 c1 c2 c3 a0 x))):=(zaq h7).trans ((zaq h13).trans (rfl))
 have hs:=hr29.shape.cells;refine za5 r rfl rfl H4 (k:=7) hs.1 zpM ?_;rw [←hs.2.2,hd];exact rfin hF hB hr29 u31 kw kw kw
theorem zje {n:Nat} {F:Nat→Prop} {j:Nat} {av:Plan→Int→Scan→T Int} {w0:World} (hF:∀ b,F b→b<w0.heap.size) (hj:n<j) (ax:∀ m,m<n→zbg av m)
    (a0:Plan) (a1:Int) (a2:Scan) :
    Calls ar 282 #[aq (zpg a0),.int .i64 a1,aq (scanC a2)] w0 (zpp ar zpl n (D.zbf j av a0 a1 a2) F w0):=by
 refine kN Tryz.func282 rfl 29 rfl rfl fun fr r hB=>?_;refine wsr ?_
 refine kX 23 (aq (zpg a0)) r rfl rfl fun b1 w2 n3 r=>?_;obtain ⟨E1,Z2,H1,hB,zB⟩:=n3.all hB
 refine kX 3 (I a1) r rfl rfl fun b4 w5 n6 r=>?_;have H1:=keep n6.below H1
 obtain ⟨E4,Z5,H4,hB,zB⟩:=n6.all hB;refine kX 293 (aq (scanC a2)) r rfl rfl fun b7 w8 n9 r=>?_;have H1:=keep n9.below H1
 have H4:=keep n9.below H4;obtain ⟨E7,Z8,H7,hB,zB⟩:=n9.all hB;refine za7 (.cells (kq zpl) 119 (0,0)) r (fun R=>za6 zpQ) rfl fun fr b10 w11 n12 r=>?_;have H1:=keep n12.below H1
 have H4:=keep n12.below H4;have H7:=keep n12.below H7;obtain ⟨E10,Z11,H10,hB,zB⟩:=n12.all hB;refine wn (aa (wsr (kF 0 r rfl ziA rfl fun r=>kL (I a2.at_) r rfl H7 to3 rfl rfl fun r=>kB r rfl rfl rfl rfl rfl fun r=>wn ?_)));refine ae (t:=(decide (a2.at_<0))) (r.ev rfl) (fun h13=>?_) (fun h13=>?_)
 ·
  refine wsr (kF 0 r rfl zlL rfl fun r=>kL (I a2.done) r rfl H7 to3 rfl rfl fun r=>?_);have hF1:=zpz hF hB b10
  refine kD r (zbd (F:=(kW F w0 w11 b10)) (n:=n) hF1 a2.done) rfl zqf rfl fun w14 v15 hb hr16 r=>?_;have Z14:=hb.size
  have H1:=keep hb H1;have H4:=keep hb H4;have H7:=keep hb H7;have H10:=keep hb H10;obtain ⟨hB,zB⟩:=bon hb hB;refine kP r hr16.shape rfl rfl H10 zpN rfl rfl fun w17 u18 r=>?_;have Z17:=u18.size
  have H1:=u18.keep H1 kw
  have H4:=u18.keep H4 kw
  have H7:=u18.keep H7 kw
  have H10:=u18.at_;obtain ⟨hB,zB⟩:=u18.on hB kw
  refine wn (ac ?_);have hd:D.zbf j av a0 a1 a2=(D.zaR a2.done):=(zao h13).trans (rfl);have hs:=hr16.shape.cells;refine za5 r rfl rfl H10 (k:=7) hs.1 zpM ?_;rw [←hs.2.2,hd];exact rfin hF hB hr16 u18 kw kw kw
 refine ag (wsr (kF 0 r rfl ziA rfl fun r=>kL (I a2.at_) r rfl H7 to3 rfl rfl fun r=>kB r rfl rfl rfl rfl rfl fun r=>kF 0 r rfl zn2 rfl fun r=>kL (I a2.left) r rfl H7 to3 rfl rfl fun r=>kF 0 r rfl zlL rfl fun r=>kL (I a2.done) r rfl H7 to3 rfl rfl fun r=>kU (.agg (scanC (⟨(W (a2.at_ - 1)),a2.left,a2.done⟩:Scan)).toArray) r kz rfl fun r=>?_));refine za7 (.cells ((scanC (⟨0,0,0⟩:Scan))).toArray 293 (0,0)) r (fun R=>za6 ztT) rfl fun fr b19 w20 n21 r=>?_
 have H1:=keep n21.below H1;have H4:=keep n21.below H4;have H7:=keep n21.below H7;have H10:=keep n21.below H10;obtain ⟨E19,Z20,H19,hB,zB⟩:=n21.all hB;refine zaD (.cells ((scanC (⟨(W (a2.at_ - 1)),a2.left,a2.done⟩:Scan))).toArray 293 (0,0)) r (fun R=>zax r (o:=0) (v:=(.agg (scanC (⟨(W (a2.at_ - 1)),a2.left,a2.done⟩:Scan)).toArray)) rfl rfl H19 ztX ak rfl rfl) rfl fun fr w22 u23 r=>?_;have Z22:=u23.size
 have H1:=u23.keep H1 kw
 have H4:=u23.keep H4 kw
 have H7:=u23.keep H7 kw
 have H10:=u23.keep H10 kw
 have H19:=u23.at_;obtain ⟨hB,zB⟩:=u23.on hB kw
 refine wn (wsr (kG (zpg a0) 6 r rfl H1 ta23 rfl rfl fun r=>kL (I a1) r rfl H4 to3 rfl rfl fun r=>kF 0 r rfl ziA rfl fun r=>kL (I a2.at_) r rfl H7 to3 rfl rfl fun r=>?_));refine kE r (zcr w22 a0 a1 a2.at_) rfl zqU rfl fun w24 hb r=>?_
 have Z24:=hb.size;have H1:=keep hb H1;have H4:=keep hb H4;have H7:=keep hb H7;have H10:=keep hb H10;have H19:=keep hb H19;obtain ⟨hB,zB⟩:=bon hb hB;refine za0 (.func (.func 347) #[] #[zp b1,zp b4,zp b19,zp b7]) r (fun R=>zaf r rfl) rfl fun fr r=>?_;have hF1:=zpz hF hB b10
 have f25:((kW F w0 w24 b10)) b1:=(.inr ⟨kw,kw,kw⟩)
 have f26:((kW F w0 w24 b10)) b4:=(.inr ⟨kw,kw,kw⟩)
 have f27:((kW F w0 w24 b10)) b19:=(.inr ⟨kw,kw,kw⟩)
 have f28:((kW F w0 w24 b10)) b7:=(.inr ⟨kw,kw,kw⟩)
 refine kD r (zbz (F:=(kW F w0 w24 b10)) (n:=n) hF1 (D.zaM a0 a1 a2.at_) ⟨347,[],[zp b1,zp b4,zp b19,zp b7],ztB,rfl,fun m hm x w' hs hz=>zig (j:=j) (fun b hb=>ai (hF1 b hb) hz) kw (fun m' hm'=>ax m' kw) a0 f25 (hs.at_ f25 H1) a1 f26 (hs.at_ f26 H4) (⟨(W (a2.at_ - 1)),a2.left,a2.done⟩:Scan) f27 (hs.at_ f27 H19) a2 f28 (hs.at_ f28 H7) x⟩) rfl zqh rfl fun w29 v30 hb hr31 r=>?_;have Z29:=hb.size
 have H1:=keep hb H1;have H4:=keep hb H4;have H7:=keep hb H7;have H10:=keep hb H10;have H19:=keep hb H19;obtain ⟨hB,zB⟩:=bon hb hB;refine kP r hr31.shape rfl rfl H10 zpN rfl rfl fun w32 u33 r=>?_;have Z32:=u33.size
 have H1:=u33.keep H1 kw
 have H4:=u33.keep H4 kw
 have H7:=u33.keep H7 kw
 have H19:=u33.keep H19 kw
 have H10:=u33.at_;obtain ⟨hB,zB⟩:=u33.on hB kw
 refine wn (ac ?_);have hd:D.zbf j av a0 a1 a2=(D.zb2 (D.zaM a0 a1 a2.at_) (fun x=>(D.zbR j av a0 a1 (⟨(W (a2.at_ - 1)),a2.left,a2.done⟩:Scan) a2 x))):=(zaq h13).trans (rfl)
 have hs:=hr31.shape.cells;refine za5 r rfl rfl H10 (k:=7) hs.1 zpM ?_;rw [←hs.2.2,hd];exact rfin hF hB hr31 u33 kw kw kw
theorem zj4 {n:Nat} {j:Nat} (hj:n<j) {k:Nat} (hk:n<k):zbg (D.zb6 j k) n:=by
 induction n using Nat.strongRecOn generalizing k with
 | _ n ih=>
  obtain ⟨k,rfl⟩:∃ q,k=q+1:=⟨k - 1,kw⟩
  intro F w0 hF;have h:=@zje n F j (D.zb6 j k) w0 hF hj (fun m hm=>ih m hm kw kw)
  exact h
def D.zfQ (j:Nat) (c0:Plan) (c1:Int) (a0:Int):T Int:=(D.zb6 j j c0 c1 (⟨(IntKind.i64.wrap ((IntKind.i64.wrap (minI a0 (IntKind.u64.wrap c0.retire))) - 1)),(IntKind.i64.wrap (minI a0 (IntKind.u64.wrap c0.retire))),0⟩:Scan))
theorem zjY (hF:kH F w0) (hj:n<j)
    (c0:Plan) {c0b:Nat} (c0F:F c0b) (c0h:w0.heap[c0b]?=some (.cells ((zpg c0)).toArray 23 (0,0))) (c1:Int) {c1b:Nat} (c1F:F c1b) (c1h:w0.heap[c1b]?=some (.cells ([(.int .i64 c1)]).toArray 3 (0,0))) (a0:Int) :
    Calls ar 281 #[.int .u64 a0,zp c0b,zp c1b] w0 (zpp ar zpl n (D.zfQ j c0 c1 a0) F w0):=by
 refine kN Tryz.func281 rfl 19 rfl rfl fun fr r hB=>?_;have lc0b:=ah c0h
 have lc1b:=ah c1h;refine wsr ?_;refine za7 (.cells (kq zpl) 119 (0,0)) r (fun R=>za6 zpQ) rfl fun fr b1 w2 n3 r=>?_;obtain ⟨E1,Z2,H1,hB,zB⟩:=n3.all hB
 refine wn (wsr (kM (U a0) r rfl rfl fun r=>kF 0 r rfl zjI rfl fun r=>kL (I c0.retire) r rfl (keep hB c0h) to3 rfl rfl fun r=>za0 (U (V c0.retire)) r (fun R=>zb9 r rfl ti3 ti34) rfl fun fr r=>za0 (U (minI a0 (V c0.retire))) r (fun R=>zuN r (m:=a0) (n:=(V c0.retire)) rfl rfl) rfl fun fr r=>za0 (I (W (minI a0 (V c0.retire)))) r (fun R=>zb9 r rfl ti34 ti3) rfl fun fr r=>kA (I (W (minI a0 (V c0.retire)))) r rfl rfl fun r=>wn (wsr (kG (zpg c0) 6 r rfl (keep hB c0h) ta23 rfl rfl fun r=>kL (I c1) r rfl (keep hB c1h) to3 rfl rfl fun r=>kM (I (W (minI a0 (V c0.retire)))) r rfl rfl fun r=>kB r rfl rfl rfl rfl rfl fun r=>kM (I (W (minI a0 (V c0.retire)))) r rfl rfl fun r=>kU (.agg (scanC (⟨(W ((W (minI a0 (V c0.retire))) - 1)),(W (minI a0 (V c0.retire))),0⟩:Scan)).toArray) r kz rfl fun r=>?_))));have hF1:=zpz hF hB b1
 refine kD r ((zj4 (j:=j) (k:=j) (n:=n) kw kw) (kW F w0 w2 b1) _ hF1 c0 c1 (⟨(W ((W (minI a0 (V c0.retire))) - 1)),(W (minI a0 (V c0.retire))),0⟩:Scan)) rfl zqA rfl fun w4 v5 hb hr6 r=>?_;have Z4:=hb.size
 have H1:=keep hb H1;obtain ⟨hB,zB⟩:=bon hb hB;refine kP r hr6.shape rfl rfl H1 zpN rfl rfl fun w7 u8 r=>?_;have Z7:=u8.size
 have H1:=u8.at_;obtain ⟨hB,zB⟩:=u8.on hB kw
 exact wn (ac (kR r hr6 rfl rfl H1 rfl zpM hF hB u8 kw kw kw))
def D.zct (j:Nat) (a0:Plan) (a1:Int):T Int:=(D.zb2 (D.zb3 a0 a1) (fun x=>(D.zfQ j a0 a1 x)))
theorem zi4 (hF:kH F w0) (hj:n<j)
    (a0:Plan) (a1:Int) :
    Calls ar 184 #[aq (zpg a0),.int .i64 a1] w0 (zpp ar zpl n (D.zct j a0 a1) F w0):=by
 refine kN Tryz.func184 rfl 10 rfl rfl fun fr r hB=>?_;refine wsr ?_
 refine kX 23 (aq (zpg a0)) r rfl rfl fun b1 w2 n3 r=>?_;obtain ⟨E1,Z2,H1,hB,zB⟩:=n3.all hB
 refine kX 3 (I a1) r rfl rfl fun b4 w5 n6 r=>?_;have H1:=keep n6.below H1
 obtain ⟨E4,Z5,H4,hB,zB⟩:=n6.all hB;refine za7 (.cells (kq zpl) 119 (0,0)) r (fun R=>za6 zpQ) rfl fun fr b7 w8 n9 r=>?_;have H1:=keep n9.below H1
 have H4:=keep n9.below H4;obtain ⟨E7,Z8,H7,hB,zB⟩:=n9.all hB;refine wn (wsr (kG (zpg a0) 6 r rfl H1 ta23 rfl rfl fun r=>kL (I a1) r rfl H4 to3 rfl rfl fun r=>?_));refine kE r (zcY w8 a0 a1) rfl zr6 rfl fun w10 hb r=>?_
 have Z10:=hb.size;have H1:=keep hb H1;have H4:=keep hb H4;have H7:=keep hb H7;obtain ⟨hB,zB⟩:=bon hb hB;refine za0 (.func (.func 281) #[] #[zp b1,zp b4]) r (fun R=>zaf r rfl) rfl fun fr r=>?_;have hF1:=zpz hF hB b7
 have f11:((kW F w0 w10 b7)) b1:=(.inr ⟨kw,kw,kw⟩)
 have f12:((kW F w0 w10 b7)) b4:=(.inr ⟨kw,kw,kw⟩)
 refine kD r (zbz (F:=(kW F w0 w10 b7)) (n:=n) hF1 (D.zb3 a0 a1) ⟨281,[],[zp b1,zp b4],zsP,rfl,fun m hm x w' hs hz=>zjY (j:=j) (fun b hb=>ai (hF1 b hb) hz) kw a0 f11 (hs.at_ f11 H1) a1 f12 (hs.at_ f12 H4) x⟩) rfl zqh rfl fun w13 v14 hb hr15 r=>?_;have Z13:=hb.size
 have H1:=keep hb H1;have H4:=keep hb H4;have H7:=keep hb H7;obtain ⟨hB,zB⟩:=bon hb hB;refine kP r hr15.shape rfl rfl H7 zpN rfl rfl fun w16 u17 r=>?_;have Z16:=u17.size
 have H1:=u17.keep H1 kw
 have H4:=u17.keep H4 kw
 have H7:=u17.at_;obtain ⟨hB,zB⟩:=u17.on hB kw
 exact wn (ac (kR r hr15 rfl rfl H7 rfl zpM hF hB u17 kw kw kw))
def D.zeH (c0:Int):T Int:=(D.zaR (IntKind.i64.wrap ((IntKind.i64.wrap c0)+1)))
theorem zil (hF:kH F w0)
    (c0:Int) {c0b:Nat} (c0F:F c0b) (c0h:w0.heap[c0b]?=some (.cells ([(.int .u64 c0)]).toArray 34 (0,0))) :
    Calls ar 300 #[zp c0b] w0 (zpp ar zpl n (D.zeH c0) F w0):=by
 refine kN Tryz.func300 rfl 6 rfl rfl fun fr r hB=>?_;have lc0b:=ah c0h
 refine wsr ?_;refine za7 (.cells (kq zpl) 119 (0,0)) r (fun R=>za6 zpQ) rfl fun fr b1 w2 n3 r=>?_;obtain ⟨E1,Z2,H1,hB,zB⟩:=n3.all hB
 refine wn (wsr (kL (U c0) r rfl (keep hB c0h) to34 rfl rfl fun r=>za0 (I (W c0)) r (fun R=>zb9 r rfl ti34 ti3) rfl fun fr r=>kB r rfl rfl rfl rfl rfl fun r=>?_));have hF1:=zpz hF hB b1
 refine kD r (zbd (F:=(kW F w0 w2 b1)) (n:=n) hF1 (W ((W c0)+1))) rfl zqf rfl fun w4 v5 hb hr6 r=>?_;have Z4:=hb.size
 have H1:=keep hb H1;obtain ⟨hB,zB⟩:=bon hb hB;refine kP r hr6.shape rfl rfl H1 zpN rfl rfl fun w7 u8 r=>?_;have Z7:=u8.size
 have H1:=u8.at_;obtain ⟨hB,zB⟩:=u8.on hB kw
 exact wn (ac (kR r hr6 rfl rfl H1 rfl zpM hF hB u8 kw kw kw))
def D.zem (c0:Plan) (c1:Int) (c2:Int):T Int:=(D.zb5 (D.zb3 c0 c1) (IntKind.u64.wrap (c2+1)) (fun _=>(D.zeH c2)))
theorem zj9 (hF:kH F w0)
    (c0:Plan) {c0b:Nat} (c0F:F c0b) (c0h:w0.heap[c0b]?=some (.cells ((zpg c0)).toArray 23 (0,0))) (c1:Int) {c1b:Nat} (c1F:F c1b) (c1h:w0.heap[c1b]?=some (.cells ([(.int .i64 c1)]).toArray 3 (0,0))) (c2:Int) {c2b:Nat} (c2F:F c2b) (c2h:w0.heap[c2b]?=some (.cells ([(.int .u64 c2)]).toArray 34 (0,0))) :
    Calls ar 299 #[zp c0b,zp c1b,zp c2b] w0 (zpp ar zpl n (D.zem c0 c1 c2) F w0):=by
 refine kN Tryz.func299 rfl 11 rfl rfl fun fr r hB=>?_;have lc0b:=ah c0h
 have lc1b:=ah c1h;have lc2b:=ah c2h;refine wsr ?_;refine za7 (.cells (kq zpl) 119 (0,0)) r (fun R=>za6 zpQ) rfl fun fr b1 w2 n3 r=>?_;obtain ⟨E1,Z2,H1,hB,zB⟩:=n3.all hB
 refine wn (aa ?_);refine zaB 6 [.val (aq (zpg c0)),.val (I c1),.val (I (D.zb3 c0 c1)),.val (U c2),.val (U (V (c2+1))),.val (.func (.func 300) #[] #[zp c2b])] mixed r kz (kV (kV (kV (kV (kV (kV zat)))))) ?_ ?_
 ·
  refine ec r (fun _ u _ b d s=>zac s (cs:=(zpg c0)) (n:=6) rfl (zpW hB b c0h) ta23 rfl bz) (ec r (fun _ u _ b d s=>za4 s rfl (zpW hB b c1h) to3 rfl bz) (ec r (fun fr1 u w' hb' hd r'=>zaF r' (args:=[(aq (zpg c0)),(I c1)]) (lc hd.1 (lc hd.2.1 l0)) zr6 ((zcY _ c0 c1).mono yab)) (ec r (fun _ u _ b d s=>za4 s rfl (zpW hB b c2h) to34 rfl bz) (ec r (fun _ u _ b d s=>zpG s d.1 rfl rfl rfl bz) (ec r (fun _ u _ b d s=>zaf s (v:=(.func (.func 300) #[] #[zp c2b])) rfl bz) ?_)))));exact zaO
 intro fr u w4 hb hΦ hne r;have r:=r.congr (sc (hΦ 5 ke) (sc (hΦ 4 ke) (sc (hΦ 3 ke) (sc (hΦ 2 ke) (sc (hΦ 1 ke) (sc (hΦ 0 ke) rfl))))));have Z4:=hb.size;have H1:=keep hb H1;obtain ⟨hB,zB⟩:=bon hb hB;have hF1:=zpz hF hB b1;have f5:((kW F w0 w4 b1)) c2b:=(.inl c2F);refine kD r (zbB (F:=(kW F w0 w4 b1)) (n:=n) hF1 (D.zb3 c0 c1) (V (c2+1)) ⟨300,[],[zp c2b],zuz,rfl,fun m hm _ w' hs hz=>zil (fun b hb=>ai (hF1 b hb) hz) c2 f5 (hs.at_ f5 (keep hB c2h))⟩) rfl zqn rfl fun w6 v7 hb hr8 r=>?_;have Z6:=hb.size
 have H1:=keep hb H1;obtain ⟨hB,zB⟩:=bon hb hB;refine kP r hr8.shape rfl rfl H1 zpN rfl rfl fun w9 u10 r=>?_;have Z9:=u10.size
 have H1:=u10.at_;obtain ⟨hB,zB⟩:=u10.on hB kw
 exact wn (ac (kR r hr8 rfl rfl H1 rfl zpM hF hB u10 kw kw kw))
def D.zdF (c0:Plan) (c1:Int) (c2:Int) (a0:Int):T Int:=(bif (decide (a0≥(IntKind.u64.wrap c0.retire))) then (D.zaR (-1)) else (D.zb5 (D.zaM c0 c1 (IntKind.i64.wrap a0)) (IntKind.u64.wrap (IntKind.i64.wrap (c2+1))) (fun _=>(D.zem c0 c1 a0))))
theorem zkb (hF:kH F w0)
    (c0:Plan) {c0b:Nat} (c0F:F c0b) (c0h:w0.heap[c0b]?=some (.cells ((zpg c0)).toArray 23 (0,0))) (c1:Int) {c1b:Nat} (c1F:F c1b) (c1h:w0.heap[c1b]?=some (.cells ([(.int .i64 c1)]).toArray 3 (0,0))) (c2:Int) {c2b:Nat} (c2F:F c2b) (c2h:w0.heap[c2b]?=some (.cells ([(.int .i64 c2)]).toArray 3 (0,0))) (a0:Int) :
    Calls ar 298 #[.int .u64 a0,zp c0b,zp c1b,zp c2b] w0 (zpp ar zpl n (D.zdF c0 c1 c2 a0) F w0):=by
 refine kN Tryz.func298 rfl 22 rfl rfl fun fr r hB=>?_;have lc0b:=ah c0h
 have lc1b:=ah c1h;have lc2b:=ah c2h;refine wsr ?_;refine kX 34 (U a0) r rfl rfl fun b1 w2 n3 r=>?_;obtain ⟨E1,Z2,H1,hB,zB⟩:=n3.all hB
 refine za7 (.cells (kq zpl) 119 (0,0)) r (fun R=>za6 zpQ) rfl fun fr b4 w5 n6 r=>?_;have H1:=keep n6.below H1
 obtain ⟨E4,Z5,H4,hB,zB⟩:=n6.all hB;refine wn (aa (wsr (kL (U a0) r rfl H1 to34 rfl rfl fun r=>kF 0 r rfl zjI rfl fun r=>kL (I c0.retire) r rfl (keep hB c0h) to3 rfl rfl fun r=>za0 (U (V c0.retire)) r (fun R=>zb9 r rfl ti3 ti34) rfl fun fr r=>kB r rfl rfl rfl rfl rfl fun r=>wn ?_)));refine ae (t:=(decide (a0≥(V c0.retire)))) (r.ev rfl) (fun h7=>?_) (fun h7=>?_)
 ·
  refine wsr ?_;have hF1:=zpz hF hB b4;refine kD r (zbd (F:=(kW F w0 w5 b4)) (n:=n) hF1 (-1)) rfl zqf rfl fun w8 v9 hb hr10 r=>?_;have Z8:=hb.size
  have H1:=keep hb H1;have H4:=keep hb H4;obtain ⟨hB,zB⟩:=bon hb hB;refine kP r hr10.shape rfl rfl H4 zpN rfl rfl fun w11 u12 r=>?_;have Z11:=u12.size
  have H1:=u12.keep H1 kw
  have H4:=u12.at_;obtain ⟨hB,zB⟩:=u12.on hB kw
  refine wn (ac ?_);have hd:D.zdF c0 c1 c2 a0=(D.zaR (-1)):=(zao h7).trans (rfl);have hs:=hr10.shape.cells;refine za5 r rfl rfl H4 (k:=7) hs.1 zpM ?_;rw [←hs.2.2,hd];exact rfin hF hB hr10 u12 kw kw kw
 refine ag (aa ?_);refine zaB 9 [.val (aq (zpg c0)),.val (I c1),.val (U a0),.val (I (W a0)),.val (I (D.zaM c0 c1 (W a0))),.val (I c2),.val (I (W (c2+1))),.val (U (V (W (c2+1)))),.val (.func (.func 299) #[] #[zp c0b,zp c1b,zp b1])] mixed r kz (kV (kV (kV (kV (kV (kV (kV (kV (kV zat))))))))) ?_ ?_
 ·
  refine ec r (fun _ u _ b d s=>zac s (cs:=(zpg c0)) (n:=6) rfl (zpW hB b c0h) ta23 rfl bz) (ec r (fun _ u _ b d s=>za4 s rfl (zpW hB b c1h) to3 rfl bz) (ec r (fun _ u _ b d s=>za4 s rfl (keep b H1) to34 rfl bz) (ec r (fun _ u _ b d s=>zb9 s (n:=a0) d.1 ti34 ti3 bz) (ec r (fun fr1 u w' hb' hd r'=>zaF r' (args:=[(aq (zpg c0)),(I c1),(I (W a0))]) (lc hd.1 (lc hd.2.1 (lc hd.2.2.1 l0))) zqU ((zcr _ c0 c1 (W a0)).mono yab)) (ec r (fun _ u _ b d s=>za4 s rfl (zpW hB b c2h) to3 rfl bz) (ec r (fun _ u _ b d s=>zpG s d.1 rfl rfl rfl bz) (ec r (fun _ u _ b d s=>zb9 s (n:=(W (c2+1))) d.1 ti3 ti34 bz) (ec r (fun _ u _ b d s=>zaf s (v:=(.func (.func 299) #[] #[zp c0b,zp c1b,zp b1])) rfl bz) ?_))))))));exact zaO
 intro fr u w13 hb hΦ hne r;have r:=r.congr (sc (hΦ 8 ke) (sc (hΦ 7 ke) (sc (hΦ 6 ke) (sc (hΦ 5 ke) (sc (hΦ 4 ke) (sc (hΦ 3 ke) (sc (hΦ 2 ke) (sc (hΦ 1 ke) (sc (hΦ 0 ke) rfl)))))))));have Z13:=hb.size;have H1:=keep hb H1;have H4:=keep hb H4;obtain ⟨hB,zB⟩:=bon hb hB;have hF1:=zpz hF hB b4;have f14:((kW F w0 w13 b4)) c0b:=(.inl c0F);have f15:((kW F w0 w13 b4)) c1b:=(.inl c1F);have f16:((kW F w0 w13 b4)) b1:=(.inr ⟨kw,kw,kw⟩)
 refine kD r (zbB (F:=(kW F w0 w13 b4)) (n:=n) hF1 (D.zaM c0 c1 (W a0)) (V (W (c2+1))) ⟨299,[],[zp c0b,zp c1b,zp b1],zul,rfl,fun m hm _ w' hs hz=>zj9 (fun b hb=>ai (hF1 b hb) hz) c0 f14 (hs.at_ f14 (keep hB c0h)) c1 f15 (hs.at_ f15 (keep hB c1h)) a0 f16 (hs.at_ f16 H1)⟩) rfl zqn rfl fun w17 v18 hb hr19 r=>?_;have Z17:=hb.size
 have H1:=keep hb H1;have H4:=keep hb H4;obtain ⟨hB,zB⟩:=bon hb hB;refine kP r hr19.shape rfl rfl H4 zpN rfl rfl fun w20 u21 r=>?_;have Z20:=u21.size
 have H1:=u21.keep H1 kw
 have H4:=u21.at_;obtain ⟨hB,zB⟩:=u21.on hB kw
 refine wn (ac ?_);have hd:D.zdF c0 c1 c2 a0=(D.zb5 (D.zaM c0 c1 (W a0)) (V (W (c2+1))) (fun _=>(D.zem c0 c1 a0))):=(zaq h7).trans (rfl)
 have hs:=hr19.shape.cells;refine za5 r rfl rfl H4 (k:=7) hs.1 zpM ?_;rw [←hs.2.2,hd];exact rfin hF hB hr19 u21 kw kw kw
def D.zdI (a0:Plan) (a1:Int) (a2:Int):T Int:=(D.zb2 (D.zb3 a0 a1) (fun x=>(D.zdF a0 a1 a2 x)))
theorem zj0 (hF:kH F w0)
    (a0:Plan) (a1:Int) (a2:Int) :
    Calls ar 224 #[aq (zpg a0),.int .i64 a1,.int .i64 a2] w0 (zpp ar zpl n (D.zdI a0 a1 a2) F w0):=by
 refine kN Tryz.func224 rfl 12 rfl rfl fun fr r hB=>?_;refine wsr ?_
 refine kX 23 (aq (zpg a0)) r rfl rfl fun b1 w2 n3 r=>?_;obtain ⟨E1,Z2,H1,hB,zB⟩:=n3.all hB
 refine kX 3 (I a1) r rfl rfl fun b4 w5 n6 r=>?_;have H1:=keep n6.below H1
 obtain ⟨E4,Z5,H4,hB,zB⟩:=n6.all hB;refine kX 3 (I a2) r rfl rfl fun b7 w8 n9 r=>?_;have H1:=keep n9.below H1
 have H4:=keep n9.below H4;obtain ⟨E7,Z8,H7,hB,zB⟩:=n9.all hB;refine za7 (.cells (kq zpl) 119 (0,0)) r (fun R=>za6 zpQ) rfl fun fr b10 w11 n12 r=>?_;have H1:=keep n12.below H1
 have H4:=keep n12.below H4;have H7:=keep n12.below H7;obtain ⟨E10,Z11,H10,hB,zB⟩:=n12.all hB;refine wn (wsr (kG (zpg a0) 6 r rfl H1 ta23 rfl rfl fun r=>kL (I a1) r rfl H4 to3 rfl rfl fun r=>?_));refine kE r (zcY w11 a0 a1) rfl zr6 rfl fun w13 hb r=>?_
 have Z13:=hb.size;have H1:=keep hb H1;have H4:=keep hb H4;have H7:=keep hb H7;have H10:=keep hb H10;obtain ⟨hB,zB⟩:=bon hb hB;refine za0 (.func (.func 298) #[] #[zp b1,zp b4,zp b7]) r (fun R=>zaf r rfl) rfl fun fr r=>?_;have hF1:=zpz hF hB b10
 have f14:((kW F w0 w13 b10)) b1:=(.inr ⟨kw,kw,kw⟩)
 have f15:((kW F w0 w13 b10)) b4:=(.inr ⟨kw,kw,kw⟩)
 have f16:((kW F w0 w13 b10)) b7:=(.inr ⟨kw,kw,kw⟩)
 refine kD r (zbz (F:=(kW F w0 w13 b10)) (n:=n) hF1 (D.zb3 a0 a1) ⟨298,[],[zp b1,zp b4,zp b7],zuf,rfl,fun m hm x w' hs hz=>zkb (fun b hb=>ai (hF1 b hb) hz) a0 f14 (hs.at_ f14 H1) a1 f15 (hs.at_ f15 H4) a2 f16 (hs.at_ f16 H7) x⟩) rfl zqh rfl fun w17 v18 hb hr19 r=>?_;have Z17:=hb.size
 have H1:=keep hb H1;have H4:=keep hb H4;have H7:=keep hb H7;have H10:=keep hb H10;obtain ⟨hB,zB⟩:=bon hb hB;refine kP r hr19.shape rfl rfl H10 zpN rfl rfl fun w20 u21 r=>?_;have Z20:=u21.size
 have H1:=u21.keep H1 kw
 have H4:=u21.keep H4 kw
 have H7:=u21.keep H7 kw
 have H10:=u21.at_;obtain ⟨hB,zB⟩:=u21.on hB kw
 exact wn (ac (kR r hr19 rfl rfl H10 rfl zpM hF hB u21 kw kw kw))
end
end Go.Proofs.YtbbipmelhmgmfaaGreat
