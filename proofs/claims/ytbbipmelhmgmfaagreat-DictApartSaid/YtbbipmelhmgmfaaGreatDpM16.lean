/- Some of our texts, one behind the other. -/
import Derived.Test.YtbbipmelhmgmfaaGreatDpRetires
import Derived.Test.YtbbipmelhmgmfaaGreatDpM15
import Derived.Test.YtbbipmelhmgmfaaGreatDpM6
import Derived.Test.YtbbipmelhmgmfaaGreatDpM4
import Derived.Test.YtbbipmelhmgmfaaGreatDpM5
import Derived.Test.YtbbipmelhmgmfaaGreatDpOps
import Derived.Test.YtbbipmelhmgmfaaGreatDpM2
import Derived.Test.YtbbipmelhmgmfaaGreatDpMem
import Derived.Test.YtbbipmelhmgmfaaGreatDpM14
set_option linter.all false
set_option maxRecDepth 100000
set_option maxHeartbeats 20000000
/- Ours. -/
namespace Go.Proofs.YtbbipmelhmgmfaaGreat
open Go.RowKit
section
variable {n : Nat} {F : Nat → Prop} {j : Nat} {w0 : World}
theorem zu3:zpf ar 138:=kz
theorem zu4:zpf ar 141:=kz
theorem zuH:zpf ar 178:=kz
theorem zsr:zpf ar 179:=kz
theorem zsy:zpf ar 180:=kz
theorem zu6:zpf ar 183:=kz
theorem zsG:zpf ar 184:=kz
theorem ztQ:zpf ar 185:=kz
theorem ztr:zpf ar 187:=kz
theorem zta:zpf ar 189:=kz
theorem zth:zpf ar 221:=kz
theorem zrJ:zpf ar 224:=kz
theorem zu5:zpf ar 225:=kz
theorem ztO:zpf ar 226:=kz
theorem ztY:zpf ar 269:=kz
theorem ztj:zpf ar 270:=kz
theorem zuw:zpf ar 271:=kz
theorem zuD:zpf ar 272:=kz
theorem zub:zpf ar 273:=kz
theorem ztw:sized ar 233 1:=kz
theorem zuB:sized ar 261 1:=kz
theorem zuJ:zeroOf ar 233=some .nilFunc:=kz
theorem zum:zeroOf ar 261=some .nilFunc:=kz
def D.zgx (c0:Int) (c1:State):T Grant:=(D.zdW (⟨c0,c1.gen,0⟩:Grant))
theorem ziE (hF:kH F w0)
    (c0:Int) {c0b:Nat} (c0F:F c0b) (c0h:w0.heap[c0b]?=some (.cells ([(.int .i64 c0)]).toArray 3 (0,0))) (c1:State) {c1b:Nat} (c1F:F c1b) (c1h:w0.heap[c1b]?=some (.cells ((zps c1)).toArray 190 (0,0))) :
    Calls ar 273 #[zp c0b,zp c1b] w0 (zpp ar zpt n (D.zgx c0 c1) F w0):=by
 refine kN Tryz.func273 rfl 8 rfl rfl fun fr r hB=>?_;have lc0b:=ah c0h
 have lc1b:=ah c1h;refine wsr ?_;refine za7 (.cells (kq zpt) 116 (0,0)) r (fun R=>za6 zq8) rfl fun fr b1 w2 n3 r=>?_;obtain ⟨E1,Z2,H1,hB,zB⟩:=n3.all hB
 refine wn (wsr (kL (I c0) r rfl (keep hB c0h) to3 rfl rfl fun r=>kF 0 r rfl zgD rfl fun r=>kL (I c1.gen) r rfl (keep hB c1h) to3 rfl rfl fun r=>kU (aq (grantC (⟨c0,c1.gen,0⟩:Grant))) r kz rfl fun r=>?_));have hF1:=zpz hF hB b1
 refine kD r (zfL (F:=(kW F w0 w2 b1)) (n:=n) hF1 (⟨c0,c1.gen,0⟩:Grant)) rfl zsr rfl fun w4 v5 hb hr6 r=>?_;have Z4:=hb.size
 have H1:=keep hb H1;obtain ⟨hB,zB⟩:=bon hb hB;refine kP r hr6.shape rfl rfl H1 zq6 rfl rfl fun w7 u8 r=>?_;have Z7:=u8.size
 have H1:=u8.at_;obtain ⟨hB,zB⟩:=u8.on hB kw
 exact wn (ac (kR r hr6 rfl rfl H1 rfl zq7 hF hB u8 kw kw kw))
def D.zfW (c0:Plan) (c1:Int) (c2:Int) (a0:Int):T Grant:=(D.zeG (D.zaJ c0 c1) (D.zak (D.zaU ((D.zan a0).1) c2)) (fun _=>(D.zgx c1 ((D.zan a0).1))))
theorem zjz (hF:kH F w0)
    (c0:Plan) {c0b:Nat} (c0F:F c0b) (c0h:w0.heap[c0b]?=some (.cells ((zpg c0)).toArray 23 (0,0))) (c1:Int) {c1b:Nat} (c1F:F c1b) (c1h:w0.heap[c1b]?=some (.cells ([(.int .i64 c1)]).toArray 3 (0,0))) (c2:Int) {c2b:Nat} (c2F:F c2b) (c2h:w0.heap[c2b]?=some (.cells ([(.int .i64 c2)]).toArray 3 (0,0))) (a0:Int) :
    Calls ar 270 #[.int .u64 a0,zp c0b,zp c1b,zp c2b] w0 (zpp ar zpt n (D.zfW c0 c1 c2 a0) F w0):=by
 refine kN Tryz.func270 rfl 22 rfl rfl fun fr r hB=>?_;have lc0b:=ah c0h
 have lc1b:=ah c1h;have lc2b:=ah c2h;refine wsr ?_;refine za7 (.cells (kq zpt) 116 (0,0)) r (fun R=>za6 zq8) rfl fun fr b1 w2 n3 r=>?_;obtain ⟨E1,Z2,H1,hB,zB⟩:=n3.all hB
 refine wn (wsr (kM (U a0) r rfl rfl fun r=>?_));refine kE r (zfI w2 a0) rfl zrr rfl fun w4 hb r=>?_
 have Z4:=hb.size;have H1:=keep hb H1;obtain ⟨hB,zB⟩:=bon hb hB;refine kM (.tuple #[(aq (zps (D.zan a0).1)),(.bool (D.zan a0).2)]) r rfl rfl fun r=>za0 (aq (zps (D.zan a0).1)) r (fun R=>zb1 r (vs:=#[(aq (zps (D.zan a0).1)),(.bool (D.zan a0).2)]) rfl rfl) rfl fun fr r=>za0 (.bool (D.zan a0).2) r (fun R=>zb1 r (vs:=#[(aq (zps (D.zan a0).1)),(.bool (D.zan a0).2)]) rfl rfl) rfl fun fr r=>?_;refine za7 (.cells ((zps (⟨0,0,0⟩:State))).toArray 190 (0,0)) r (fun R=>za6 zqj) rfl fun fr b5 w6 n7 r=>?_
 have H1:=keep n7.below H1;obtain ⟨E5,Z6,H5,hB,zB⟩:=n7.all hB;refine zaD (.cells ((zps ((D.zan a0).1))).toArray 190 (0,0)) r (fun R=>zax r (o:=0) (v:=(aq (zps (D.zan a0).1))) rfl rfl H5 zqd ak rfl rfl) rfl fun fr w8 u9 r=>?_;have Z8:=u9.size
 have H1:=u9.keep H1 kw
 have H5:=u9.at_;obtain ⟨hB,zB⟩:=u9.on hB kw
 refine kA (.bool (D.zan a0).2) r rfl rfl fun r=>wn (aa ?_);refine zaB 8 [.val (aq (zpg c0)),.val (I c1),.val (I (D.zaJ c0 c1)),.val (aq (zps (D.zan a0).1)),.val (I c2),.val (.agg (zps (D.zaU ((D.zan a0).1) c2)).toArray),.val (U (D.zak (D.zaU ((D.zan a0).1) c2))),.val (.func (.func 273) #[] #[zp c1b,zp b5])] mixed r kz (kV (kV (kV (kV (kV (kV (kV (kV zat)))))))) ?_ ?_
 ·
  refine ec r (fun _ u _ b d s=>zac s (cs:=(zpg c0)) (n:=6) rfl (zpW hB b c0h) ta23 rfl bz) (ec r (fun _ u _ b d s=>za4 s rfl (zpW hB b c1h) to3 rfl bz) (ec r (fun fr1 u w' hb' hd r'=>zaF r' (args:=[(aq (zpg c0)),(I c1)]) (lc hd.1 (lc hd.2.1 l0)) zqw ((zbX _ c0 c1).mono yab)) (ec r (fun _ u _ b d s=>zac s (cs:=(zps ((D.zan a0).1))) (n:=3) rfl (keep b H5) zq9 rfl bz) (ec r (fun _ u _ b d s=>za4 s rfl (zpW hB b c2h) to3 rfl bz) (ec r (fun fr1 u w' hb' hd r'=>zaF r' (args:=[(aq (zps (D.zan a0).1)),(I c2)]) (lc hd.1 (lc hd.2.1 l0)) zuD ((zif _ ((D.zan a0).1) c2).mono yab)) (ec r (fun fr1 u w' hb' hd r'=>zaF r' (args:=[(.agg (zps (D.zaU ((D.zan a0).1) c2)).toArray)]) (lc hd.1 l0) zre ((zc6 _ (D.zaU ((D.zan a0).1) c2)).mono yab)) (ec r (fun _ u _ b d s=>zaf s (v:=(.func (.func 273) #[] #[zp c1b,zp b5])) rfl bz) ?_)))))));exact zaO
 intro fr u w10 hb hΦ hne r;have r:=r.congr (sc (hΦ 7 ke) (sc (hΦ 6 ke) (sc (hΦ 5 ke) (sc (hΦ 4 ke) (sc (hΦ 3 ke) (sc (hΦ 2 ke) (sc (hΦ 1 ke) (sc (hΦ 0 ke) rfl))))))));have Z10:=hb.size;have H1:=keep hb H1;have H5:=keep hb H5;obtain ⟨hB,zB⟩:=bon hb hB;have hF1:=zpz hF hB b1;have f11:((kW F w0 w10 b1)) c1b:=(.inl c1F);have f12:((kW F w0 w10 b1)) b5:=(.inr ⟨kw,kw,kw⟩)
 refine kD r (zii (F:=(kW F w0 w10 b1)) (n:=n) hF1 (D.zaJ c0 c1) (D.zak (D.zaU ((D.zan a0).1) c2)) ⟨273,[],[zp c1b,zp b5],zub,rfl,fun m hm _ w' hs hz=>ziE (fun b hb=>ai (hF1 b hb) hz) c1 f11 (hs.at_ f11 (keep hB c1h)) ((D.zan a0).1) f12 (hs.at_ f12 H5)⟩) rfl zuw rfl fun w13 v14 hb hr15 r=>?_;have Z13:=hb.size
 have H1:=keep hb H1;have H5:=keep hb H5;obtain ⟨hB,zB⟩:=bon hb hB;refine kP r hr15.shape rfl rfl H1 zq6 rfl rfl fun w16 u17 r=>?_;have Z16:=u17.size
 have H5:=u17.keep H5 kw
 have H1:=u17.at_;obtain ⟨hB,zB⟩:=u17.on hB kw
 exact wn (ac (kR r hr15 rfl rfl H1 rfl zq7 hF hB u17 kw kw kw))
def D.zcP (a0:Plan) (a1:Int) (a2:Int):T Grant:=(D.zf1 (D.zaJ a0 a1) (fun x=>(D.zfW a0 a1 a2 x)))
theorem zi1 (hF:kH F w0)
    (a0:Plan) (a1:Int) (a2:Int) :
    Calls ar 180 #[aq (zpg a0),.int .i64 a1,.int .i64 a2] w0 (zpp ar zpt n (D.zcP a0 a1 a2) F w0):=by
 refine kN Tryz.func180 rfl 12 rfl rfl fun fr r hB=>?_;refine wsr ?_
 refine kX 23 (aq (zpg a0)) r rfl rfl fun b1 w2 n3 r=>?_;obtain ⟨E1,Z2,H1,hB,zB⟩:=n3.all hB
 refine kX 3 (I a1) r rfl rfl fun b4 w5 n6 r=>?_;have H1:=keep n6.below H1
 obtain ⟨E4,Z5,H4,hB,zB⟩:=n6.all hB;refine kX 3 (I a2) r rfl rfl fun b7 w8 n9 r=>?_;have H1:=keep n9.below H1
 have H4:=keep n9.below H4;obtain ⟨E7,Z8,H7,hB,zB⟩:=n9.all hB;refine za7 (.cells (kq zpt) 116 (0,0)) r (fun R=>za6 zq8) rfl fun fr b10 w11 n12 r=>?_;have H1:=keep n12.below H1
 have H4:=keep n12.below H4;have H7:=keep n12.below H7;obtain ⟨E10,Z11,H10,hB,zB⟩:=n12.all hB;refine wn (wsr (kG (zpg a0) 6 r rfl H1 ta23 rfl rfl fun r=>kL (I a1) r rfl H4 to3 rfl rfl fun r=>?_));refine kE r (zbX w11 a0 a1) rfl zqw rfl fun w13 hb r=>?_
 have Z13:=hb.size;have H1:=keep hb H1;have H4:=keep hb H4;have H7:=keep hb H7;have H10:=keep hb H10;obtain ⟨hB,zB⟩:=bon hb hB;refine za0 (.func (.func 270) #[] #[zp b1,zp b4,zp b7]) r (fun R=>zaf r rfl) rfl fun fr r=>?_;have hF1:=zpz hF hB b10
 have f14:((kW F w0 w13 b10)) b1:=(.inr ⟨kw,kw,kw⟩)
 have f15:((kW F w0 w13 b10)) b4:=(.inr ⟨kw,kw,kw⟩)
 have f16:((kW F w0 w13 b10)) b7:=(.inr ⟨kw,kw,kw⟩)
 refine kD r (zis (F:=(kW F w0 w13 b10)) (n:=n) hF1 (D.zaJ a0 a1) ⟨270,[],[zp b1,zp b4,zp b7],ztj,rfl,fun m hm x w' hs hz=>zjz (fun b hb=>ai (hF1 b hb) hz) a0 f14 (hs.at_ f14 H1) a1 f15 (hs.at_ f15 H4) a2 f16 (hs.at_ f16 H7) x⟩) rfl ztY rfl fun w17 v18 hb hr19 r=>?_;have Z17:=hb.size
 have H1:=keep hb H1;have H4:=keep hb H4;have H7:=keep hb H7;have H10:=keep hb H10;obtain ⟨hB,zB⟩:=bon hb hB;refine kP r hr19.shape rfl rfl H10 zq6 rfl rfl fun w20 u21 r=>?_;have Z20:=u21.size
 have H1:=u21.keep H1 kw
 have H4:=u21.keep H4 kw
 have H7:=u21.keep H7 kw
 have H10:=u21.at_;obtain ⟨hB,zB⟩:=u21.on hB kw
 exact wn (ac (kR r hr19 rfl rfl H10 rfl zq7 hF hB u21 kw kw kw))
def D.zbA (c0:Plan) (c1:Int) (a0:Int):T Grant:=(bif (a0==(-1)) then (D.zdW (⟨(-1),0,4⟩:Grant)) else (D.zcP c0 a0 c1))
theorem zkW (hF:kH F w0)
    (c0:Plan) {c0b:Nat} (c0F:F c0b) (c0h:w0.heap[c0b]?=some (.cells ((zpg c0)).toArray 23 (0,0))) (c1:Int) {c1b:Nat} (c1F:F c1b) (c1h:w0.heap[c1b]?=some (.cells ([(.int .i64 c1)]).toArray 3 (0,0))) (a0:Int) :
    Calls ar 178 #[.int .i64 a0,zp c0b,zp c1b] w0 (zpp ar zpt n (D.zbA c0 c1 a0) F w0):=by
 refine kN Tryz.func178 rfl 13 rfl rfl fun fr r hB=>?_;have lc0b:=ah c0h
 have lc1b:=ah c1h;refine wsr ?_;refine za7 (.cells (kq zpt) 116 (0,0)) r (fun R=>za6 zq8) rfl fun fr b1 w2 n3 r=>?_;obtain ⟨E1,Z2,H1,hB,zB⟩:=n3.all hB
 refine wn (aa (wsr (kM (I a0) r rfl rfl fun r=>kB r rfl rfl rfl rfl rfl fun r=>wn ?_)));refine ae (t:=(a0==(-1))) (r.ev rfl) (fun h4=>?_) (fun h4=>?_)
 ·
  refine wsr (kU (aq (grantC (⟨(-1),0,4⟩:Grant))) r kz rfl fun r=>?_);have hF1:=zpz hF hB b1
  refine kD r (zfL (F:=(kW F w0 w2 b1)) (n:=n) hF1 (⟨(-1),0,4⟩:Grant)) rfl zsr rfl fun w5 v6 hb hr7 r=>?_;have Z5:=hb.size
  have H1:=keep hb H1;obtain ⟨hB,zB⟩:=bon hb hB;refine kP r hr7.shape rfl rfl H1 zq6 rfl rfl fun w8 u9 r=>?_;have Z8:=u9.size
  have H1:=u9.at_;obtain ⟨hB,zB⟩:=u9.on hB kw
  refine wn (ac ?_);have hd:D.zbA c0 c1 a0=(D.zdW (⟨(-1),0,4⟩:Grant)):=(zao h4).trans (rfl);have hs:=hr7.shape.cells;refine za5 r rfl rfl H1 (k:=9) hs.1 zq7 ?_;rw [←hs.2.2,hd];exact rfin hF hB hr7 u9 kw kw kw
 refine ag (wsr (kG (zpg c0) 6 r rfl (keep hB c0h) ta23 rfl rfl fun r=>kM (I a0) r rfl rfl fun r=>kL (I c1) r rfl (keep hB c1h) to3 rfl rfl fun r=>?_));have hF1:=zpz hF hB b1
 refine kD r (zi1 (F:=(kW F w0 w2 b1)) (n:=n) hF1 c0 a0 c1) rfl zsy rfl fun w10 v11 hb hr12 r=>?_;have Z10:=hb.size
 have H1:=keep hb H1;obtain ⟨hB,zB⟩:=bon hb hB;refine kP r hr12.shape rfl rfl H1 zq6 rfl rfl fun w13 u14 r=>?_;have Z13:=u14.size
 have H1:=u14.at_;obtain ⟨hB,zB⟩:=u14.on hB kw
 refine wn (ac ?_);have hd:D.zbA c0 c1 a0=(D.zcP c0 a0 c1):=(zaq h4).trans (rfl);have hs:=hr12.shape.cells;refine za5 r rfl rfl H1 (k:=9) hs.1 zq7 ?_;rw [←hs.2.2,hd];exact rfin hF hB hr12 u14 kw kw kw
def D.zeP (j:Nat) (c0:Plan) (c1:(Int→T Grant)) (a0:Int):T Grant:=(T.bind (D.zbP j c0) c1)
theorem zjU (hF:kH F w0) (hj:n<j)
    (c0:Plan) {c0b:Nat} (c0F:F c0b) (c0h:w0.heap[c0b]?=some (.cells ((zpg c0)).toArray 23 (0,0))) {c1f:FuncId} {c1_1 c1_2:List Value} {c1:(Int→T Grant)} {c1b:Nat} (c1F:F c1b) (c1h:w0.heap[c1b]?=some (.cells #[kf c1f c1_1 c1_2] 233 (0,0))) (c1n:FnT ar zpt i64 (n+1) F w0 (kf c1f c1_1 c1_2) c1) (a0:Int) :
    Calls ar 185 #[.int .i64 a0,zp c0b,zp c1b] w0 (zpp ar zpt n (D.zeP j c0 c1 a0) F w0):=by
 refine kN Tryz.func185 rfl 9 rfl rfl fun fr r hB=>?_;have lc0b:=ah c0h
 have lc1b:=ah c1h;refine wsr ?_;refine za7 (.cells (kq zpt) 116 (0,0)) r (fun R=>za6 zq8) rfl fun fr b1 w2 n3 r=>?_;obtain ⟨E1,Z2,H1,hB,zB⟩:=n3.all hB
 refine wn (aa ?_);have hF1:=zpz hF hB b1;refine zaB 3 [.val (aq (zpg c0)),.pred (PrepP ar zpl n (D.zbP j c0) ((kW F w0 w2 b1)) w2) (PrepP.st hF1),.val (kf c1f c1_1 c1_2)] mixed r kz (kV (kV (kV zat))) ?_ ?_
 ·
  refine ec r (fun _ u _ b d s=>zac s (cs:=(zpg c0)) (n:=6) rfl (zpW hB b c0h) ta23 rfl bz) (ec r (fun fr1 u w' hb' hd r'=>zaF r' (args:=[(aq (zpg c0))]) (lc hd.1 l0) zrd (((zkp (k:=j) (n:=n) kw) ((kW F w0 w2 b1)) _ (fun b h=>ai (hF1 b h) hb'.size) c0).mono yay)) (ec r (fun _ u _ b d s=>za4 s rfl (zpW hB b c1h) zrA rfl bz) ?_));exact zaO
 intro fr u w4 hb hΦ hne r;obtain ⟨v5,hv1⟩:∃ v,v=u 1:=⟨_,rfl⟩;have g1:u 1=v5:=hv1.symm;have hr6:=(hΦ 1 ke).2;rw [g1] at hr6
 have r:=r.congr (sc (hΦ 2 ke) (sc g1 (sc (hΦ 0 ke) rfl)))
 have Z4:=hb.size;have H1:=keep hb H1;obtain ⟨hB,zB⟩:=bon hb hB;have hF1:=zpz hF hB b1;refine kD r (zcm (F:=(kW F w0 w4 b1)) (n:=n) hF1 (Rep.mono yae (Same.refl _ _) kw n _ _ hr6) (c1n.mono kw (fun b h=>.inl h) (Same.below hB hF) hB.size)) rfl zr5 rfl fun w7 v8 hb hr9 r=>?_
 have Z7:=hb.size;have H1:=keep hb H1;obtain ⟨hB,zB⟩:=bon hb hB;refine kP r hr9.shape rfl rfl H1 zq6 rfl rfl fun w10 u11 r=>?_;have Z10:=u11.size
 have H1:=u11.at_;obtain ⟨hB,zB⟩:=u11.on hB kw
 exact wn (ac (kR r hr9 rfl rfl H1 rfl zq7 hF hB u11 kw kw kw))
def D.zcU (j:Nat) (c0:Plan) (c1:Int) (c2:Int) (c3:(Int→T Grant)) (a0:Int):T Grant:=(bif (a0 !=(-1)) then (D.zcP c0 a0 c1) else (T.bind (D.zct j c0 c2) (fun x=>(D.zeP j c0 c3 x))))
theorem zla (hF:kH F w0) (hj:n<j)
    (c0:Plan) {c0b:Nat} (c0F:F c0b) (c0h:w0.heap[c0b]?=some (.cells ((zpg c0)).toArray 23 (0,0))) (c1:Int) {c1b:Nat} (c1F:F c1b) (c1h:w0.heap[c1b]?=some (.cells ([(.int .i64 c1)]).toArray 3 (0,0))) (c2:Int) {c2b:Nat} (c2F:F c2b) (c2h:w0.heap[c2b]?=some (.cells ([(.int .i64 c2)]).toArray 3 (0,0))) {c3f:FuncId} {c3_1 c3_2:List Value} {c3:(Int→T Grant)} {c3b:Nat} (c3F:F c3b) (c3h:w0.heap[c3b]?=some (.cells #[kf c3f c3_1 c3_2] 233 (0,0))) (c3n:FnT ar zpt i64 (n+1) F w0 (kf c3f c3_1 c3_2) c3) (a0:Int) :
    Calls ar 183 #[.int .i64 a0,zp c0b,zp c1b,zp c2b,zp c3b] w0 (zpp ar zpt n (D.zcU j c0 c1 c2 c3 a0) F w0):=by
 refine kN Tryz.func183 rfl 18 rfl rfl fun fr r hB=>?_;have lc0b:=ah c0h
 have lc1b:=ah c1h;have lc2b:=ah c2h;have lc3b:=ah c3h;refine wsr ?_;refine za7 (.cells (kq zpt) 116 (0,0)) r (fun R=>za6 zq8) rfl fun fr b1 w2 n3 r=>?_;obtain ⟨E1,Z2,H1,hB,zB⟩:=n3.all hB
 refine wn (aa (wsr (kM (I a0) r rfl rfl fun r=>kB r rfl rfl rfl rfl rfl fun r=>wn ?_)));refine ae (t:=(a0 !=(-1))) (r.ev rfl) (fun h4=>?_) (fun h4=>?_)
 ·
  refine wsr (kG (zpg c0) 6 r rfl (keep hB c0h) ta23 rfl rfl fun r=>kM (I a0) r rfl rfl fun r=>kL (I c1) r rfl (keep hB c1h) to3 rfl rfl fun r=>?_);have hF1:=zpz hF hB b1
  refine kD r (zi1 (F:=(kW F w0 w2 b1)) (n:=n) hF1 c0 a0 c1) rfl zsy rfl fun w5 v6 hb hr7 r=>?_;have Z5:=hb.size
  have H1:=keep hb H1;obtain ⟨hB,zB⟩:=bon hb hB;refine kP r hr7.shape rfl rfl H1 zq6 rfl rfl fun w8 u9 r=>?_;have Z8:=u9.size
  have H1:=u9.at_;obtain ⟨hB,zB⟩:=u9.on hB kw
  refine wn (ac ?_);have hd:D.zcU j c0 c1 c2 c3 a0=(D.zcP c0 a0 c1):=(zao h4).trans (rfl);have hs:=hr7.shape.cells;refine za5 r rfl rfl H1 (k:=9) hs.1 zq7 ?_;rw [←hs.2.2,hd];exact rfin hF hB hr7 u9 kw kw kw
 refine ag (wsr (kG (zpg c0) 6 r rfl (keep hB c0h) ta23 rfl rfl fun r=>kL (I c2) r rfl (keep hB c2h) to3 rfl rfl fun r=>?_));have hF1:=zpz hF hB b1
 refine kD r (zi4 (j:=j) (F:=(kW F w0 w2 b1)) (n:=n) hF1 kw c0 c2) rfl zsG rfl fun w10 v11 hb hr12 r=>?_;have Z10:=hb.size
 have H1:=keep hb H1;obtain ⟨hB,zB⟩:=bon hb hB;refine za0 (.func (.func 185) #[] #[zp c0b,zp c3b]) r (fun R=>zaf r rfl) rfl fun fr r=>?_;have hF1:=zpz hF hB b1
 have f13:((kW F w0 w10 b1)) c0b:=(.inl c0F);have f14:((kW F w0 w10 b1)) c3b:=(.inl c3F);refine kD r (zcm (F:=(kW F w0 w10 b1)) (n:=n) hF1 (Rep.mono yae (Same.refl _ _) kw n _ _ hr12) ⟨185,[],[zp c0b,zp c3b],ztQ,rfl,fun m hm x w' hs hz=>zjU (j:=j) (fun b hb=>ai (hF1 b hb) hz) kw c0 f13 (hs.at_ f13 (keep hB c0h)) f14 (hs.at_ f14 (keep hB c3h)) (c3n.mono kw (fun b h=>.inl h) ((Same.below hB hF).trans (hs.sub (fun b h=>.inl h))) (Nat.le_trans hB.size hz)) x⟩) rfl zr5 rfl fun w15 v16 hb hr17 r=>?_
 have Z15:=hb.size;have H1:=keep hb H1;obtain ⟨hB,zB⟩:=bon hb hB;refine kP r hr17.shape rfl rfl H1 zq6 rfl rfl fun w18 u19 r=>?_;have Z18:=u19.size
 have H1:=u19.at_;obtain ⟨hB,zB⟩:=u19.on hB kw
 refine wn (ac ?_);have hd:D.zcU j c0 c1 c2 c3 a0=(T.bind (D.zct j c0 c2) (fun x=>(D.zeP j c0 c3 x))):=(zaq h4).trans (rfl)
 have hs:=hr17.shape.cells;refine za5 r rfl rfl H1 (k:=9) hs.1 zq7 ?_;rw [←hs.2.2,hd];exact rfin hF hB hr17 u19 kw kw kw
def D.zfO (j:Nat) (a0:Plan) (a1:Int) (a2:Int):T Grant:=(T.bind (D.zbP j a0) (fun x=>(D.zcU j a0 a2 a1 (fun x=>(D.zbA a0 a2 x)) x)))
theorem zm7 (hF:kH F w0) (hj:n<j)
    (a0:Plan) (a1:Int) (a2:Int) :
    Calls ar 102 #[aq (zpg a0),.int .i64 a1,.int .i64 a2] w0 (zpp ar zpt n (D.zfO j a0 a1 a2) F w0):=by
 refine kN Tryz.func102 rfl 13 rfl rfl fun fr r hB=>?_;refine wsr ?_
 refine kX 23 (aq (zpg a0)) r rfl rfl fun b1 w2 n3 r=>?_;obtain ⟨E1,Z2,H1,hB,zB⟩:=n3.all hB
 refine kX 3 (I a1) r rfl rfl fun b4 w5 n6 r=>?_;have H1:=keep n6.below H1
 obtain ⟨E4,Z5,H4,hB,zB⟩:=n6.all hB;refine kX 3 (I a2) r rfl rfl fun b7 w8 n9 r=>?_;have H1:=keep n9.below H1
 have H4:=keep n9.below H4;obtain ⟨E7,Z8,H7,hB,zB⟩:=n9.all hB;refine za7 (.cells (kq zpt) 116 (0,0)) r (fun R=>za6 zq8) rfl fun fr b10 w11 n12 r=>?_;have H1:=keep n12.below H1
 have H4:=keep n12.below H4;have H7:=keep n12.below H7;obtain ⟨E10,Z11,H10,hB,zB⟩:=n12.all hB;refine wn (wsr (za0 (.func (.func 178) #[] #[zp b1,zp b7]) r (fun R=>zaf r rfl) rfl fun fr r=>?_));refine za7 (.cells #[.nilFunc] 233 (0,0)) r (fun R=>za6 zuJ) rfl fun fr b13 w14 n15 r=>?_
 have H1:=keep n15.below H1;have H4:=keep n15.below H4;have H7:=keep n15.below H7;have H10:=keep n15.below H10;obtain ⟨E13,Z14,H13,hB,zB⟩:=n15.all hB;refine zaD (.cells #[.func (.func 178) #[] #[zp b1,zp b7]] 233 (0,0)) r (fun R=>zax r (o:=0) (v:=(.func (.func 178) #[] #[zp b1,zp b7])) rfl rfl H13 ztw ak rfl rfl) rfl fun fr w16 u17 r=>?_;have Z16:=u17.size
 have H1:=u17.keep H1 kw
 have H4:=u17.keep H4 kw
 have H7:=u17.keep H7 kw
 have H10:=u17.keep H10 kw
 have H13:=u17.at_;obtain ⟨hB,zB⟩:=u17.on hB kw
 refine wn (wsr (kG (zpg a0) 6 r rfl H1 ta23 rfl rfl fun r=>?_));have hF1:=zpz hF hB b10
 refine kD r ((zkp (k:=j) (n:=n) kw) (kW F w0 w16 b10) _ hF1 a0) rfl zrd rfl fun w18 v19 hb hr20 r=>?_;have Z18:=hb.size
 have H1:=keep hb H1;have H4:=keep hb H4;have H7:=keep hb H7;have H10:=keep hb H10;have H13:=keep hb H13;obtain ⟨hB,zB⟩:=bon hb hB;refine za0 (.func (.func 183) #[] #[zp b1,zp b7,zp b4,zp b13]) r (fun R=>zaf r rfl) rfl fun fr r=>?_;have hF1:=zpz hF hB b10
 have f21:((kW F w0 w18 b10)) b1:=(.inr ⟨kw,kw,kw⟩)
 have f22:((kW F w0 w18 b10)) b7:=(.inr ⟨kw,kw,kw⟩)
 have f23:((kW F w0 w18 b10)) b4:=(.inr ⟨kw,kw,kw⟩)
 have f24:((kW F w0 w18 b10)) b13:=(.inr ⟨kw,kw,kw⟩)
 have f26:((kW F w0 w18 b10)) b1:=(.inr ⟨kw,kw,kw⟩)
 have f27:((kW F w0 w18 b10)) b7:=(.inr ⟨kw,kw,kw⟩)
 have q25:FnT ar zpt i64 (n+1) (kW F w0 w18 b10) w18 (.func (.func 178) #[] #[zp b1,zp b7]) (fun x=>(D.zbA a0 a2 x)):=⟨178,[],[zp b1,zp b7],zuH,rfl,fun m hm x w' hs hz=>zkW (fun b hb=>ai (hF1 b hb) hz) a0 f26 (hs.at_ f26 H1) a2 f27 (hs.at_ f27 H7) x⟩
 refine kD r (zcm (F:=(kW F w0 w18 b10)) (n:=n) hF1 (Rep.mono yae (Same.refl _ _) kw n _ _ hr20) ⟨183,[],[zp b1,zp b7,zp b4,zp b13],zu6,rfl,fun m hm x w' hs hz=>zla (j:=j) (fun b hb=>ai (hF1 b hb) hz) kw a0 f21 (hs.at_ f21 H1) a2 f22 (hs.at_ f22 H7) a1 f23 (hs.at_ f23 H4) f24 (hs.at_ f24 H13) (q25.mono kw (fun b h=>h) hs hz) x⟩) rfl zr5 rfl fun w28 v29 hb hr30 r=>?_
 have Z28:=hb.size;have H1:=keep hb H1;have H4:=keep hb H4;have H7:=keep hb H7;have H10:=keep hb H10;have H13:=keep hb H13;obtain ⟨hB,zB⟩:=bon hb hB;refine kP r hr30.shape rfl rfl H10 zq6 rfl rfl fun w31 u32 r=>?_;have Z31:=u32.size
 have H1:=u32.keep H1 kw
 have H4:=u32.keep H4 kw
 have H7:=u32.keep H7 kw
 have H13:=u32.keep H13 kw
 have H10:=u32.at_;obtain ⟨hB,zB⟩:=u32.on hB kw
 exact wn (ac (kR r hr30 rfl rfl H10 rfl zq7 hF hB u32 kw kw kw))
def D.zbI (c0:Int) (a0:Int):T Int:=(bif (a0==(-1)) then (D.zaR (-1)) else (D.zaR c0))
theorem zk1 (hF:kH F w0)
    (c0:Int) {c0b:Nat} (c0F:F c0b) (c0h:w0.heap[c0b]?=some (.cells ([(.int .i64 c0)]).toArray 3 (0,0))) (a0:Int) :
    Calls ar 221 #[.int .i64 a0,zp c0b] w0 (zpp ar zpl n (D.zbI c0 a0) F w0):=by
 refine kN Tryz.func221 rfl 9 rfl rfl fun fr r hB=>?_;have lc0b:=ah c0h
 refine wsr ?_;refine za7 (.cells (kq zpl) 119 (0,0)) r (fun R=>za6 zpQ) rfl fun fr b1 w2 n3 r=>?_;obtain ⟨E1,Z2,H1,hB,zB⟩:=n3.all hB
 refine wn (aa (wsr (kM (I a0) r rfl rfl fun r=>kB r rfl rfl rfl rfl rfl fun r=>wn ?_)));refine ae (t:=(a0==(-1))) (r.ev rfl) (fun h4=>?_) (fun h4=>?_)
 ·
  refine wsr ?_;have hF1:=zpz hF hB b1;refine kD r (zbd (F:=(kW F w0 w2 b1)) (n:=n) hF1 (-1)) rfl zqf rfl fun w5 v6 hb hr7 r=>?_;have Z5:=hb.size
  have H1:=keep hb H1;obtain ⟨hB,zB⟩:=bon hb hB;refine kP r hr7.shape rfl rfl H1 zpN rfl rfl fun w8 u9 r=>?_;have Z8:=u9.size
  have H1:=u9.at_;obtain ⟨hB,zB⟩:=u9.on hB kw
  refine wn (ac ?_);have hd:D.zbI c0 a0=(D.zaR (-1)):=(zao h4).trans (rfl);have hs:=hr7.shape.cells;refine za5 r rfl rfl H1 (k:=7) hs.1 zpM ?_;rw [←hs.2.2,hd];exact rfin hF hB hr7 u9 kw kw kw
 refine ag (wsr (kL (I c0) r rfl (keep hB c0h) to3 rfl rfl fun r=>?_));have hF1:=zpz hF hB b1
 refine kD r (zbd (F:=(kW F w0 w2 b1)) (n:=n) hF1 c0) rfl zqf rfl fun w10 v11 hb hr12 r=>?_;have Z10:=hb.size
 have H1:=keep hb H1;obtain ⟨hB,zB⟩:=bon hb hB;refine kP r hr12.shape rfl rfl H1 zpN rfl rfl fun w13 u14 r=>?_;have Z13:=u14.size
 have H1:=u14.at_;obtain ⟨hB,zB⟩:=u14.on hB kw
 refine wn (ac ?_);have hd:D.zbI c0 a0=(D.zaR c0):=(zaq h4).trans (rfl);have hs:=hr12.shape.cells;refine za5 r rfl rfl H1 (k:=7) hs.1 zpM ?_;rw [←hs.2.2,hd];exact rfin hF hB hr12 u14 kw kw kw
def D.zdQ (c0:Plan) (c1:Int) (c2:Int) (c3:(Int→T Int)) (a0:Int):T Int:=(T.bind (D.zdI c0 c1 c2) c3)
theorem ziP (hF:kH F w0)
    (c0:Plan) {c0b:Nat} (c0F:F c0b) (c0h:w0.heap[c0b]?=some (.cells ((zpg c0)).toArray 23 (0,0))) (c1:Int) {c1b:Nat} (c1F:F c1b) (c1h:w0.heap[c1b]?=some (.cells ([(.int .i64 c1)]).toArray 3 (0,0))) (c2:Int) {c2b:Nat} (c2F:F c2b) (c2h:w0.heap[c2b]?=some (.cells ([(.int .i64 c2)]).toArray 3 (0,0))) {c3f:FuncId} {c3_1 c3_2:List Value} {c3:(Int→T Int)} {c3b:Nat} (c3F:F c3b) (c3h:w0.heap[c3b]?=some (.cells #[kf c3f c3_1 c3_2] 261 (0,0))) (c3n:FnT ar zpl i64 (n+1) F w0 (kf c3f c3_1 c3_2) c3) (a0:Int) :
    Calls ar 226 #[.int .i64 a0,zp c0b,zp c1b,zp c2b,zp c3b] w0 (zpp ar zpl n (D.zdQ c0 c1 c2 c3 a0) F w0):=by
 refine kN Tryz.func226 rfl 13 rfl rfl fun fr r hB=>?_;have lc0b:=ah c0h
 have lc1b:=ah c1h;have lc2b:=ah c2h;have lc3b:=ah c3h;refine wsr ?_;refine za7 (.cells (kq zpl) 119 (0,0)) r (fun R=>za6 zpQ) rfl fun fr b1 w2 n3 r=>?_;obtain ⟨E1,Z2,H1,hB,zB⟩:=n3.all hB
 refine wn (aa ?_);have hF1:=zpz hF hB b1;refine zaB 5 [.val (aq (zpg c0)),.val (I c1),.val (I c2),.pred (PrepP ar zpl n (D.zdI c0 c1 c2) ((kW F w0 w2 b1)) w2) (PrepP.st hF1),.val (kf c3f c3_1 c3_2)] mixed r kz (kV (kV (kV (kV (kV zat))))) ?_ ?_
 ·
  refine ec r (fun _ u _ b d s=>zac s (cs:=(zpg c0)) (n:=6) rfl (zpW hB b c0h) ta23 rfl bz) (ec r (fun _ u _ b d s=>za4 s rfl (zpW hB b c1h) to3 rfl bz) (ec r (fun _ u _ b d s=>za4 s rfl (zpW hB b c2h) to3 rfl bz) (ec r (fun fr1 u w' hb' hd r'=>zaF r' (args:=[(aq (zpg c0)),(I c1),(I c2)]) (lc hd.1 (lc hd.2.1 (lc hd.2.2.1 l0))) zrJ ((zj0 (F:=(kW F w0 w2 b1)) (n:=n) (fun b h=>ai (hF1 b h) hb'.size) c0 c1 c2).mono yay)) (ec r (fun _ u _ b d s=>za4 s rfl (zpW hB b c3h) zrb rfl bz) ?_))));exact zaO
 intro fr u w4 hb hΦ hne r;obtain ⟨v5,hv3⟩:∃ v,v=u 3:=⟨_,rfl⟩;have g3:u 3=v5:=hv3.symm;have hr6:=(hΦ 3 ke).2;rw [g3] at hr6
 have r:=r.congr (sc (hΦ 4 ke) (sc g3 (sc (hΦ 2 ke) (sc (hΦ 1 ke) (sc (hΦ 0 ke) rfl)))))
 have Z4:=hb.size;have H1:=keep hb H1;obtain ⟨hB,zB⟩:=bon hb hB;have hF1:=zpz hF hB b1;refine kD r (zcF (F:=(kW F w0 w4 b1)) (n:=n) hF1 (Rep.mono yae (Same.refl _ _) kw n _ _ hr6) (c3n.mono kw (fun b h=>.inl h) (Same.below hB hF) hB.size)) rfl zqJ rfl fun w7 v8 hb hr9 r=>?_
 have Z7:=hb.size;have H1:=keep hb H1;obtain ⟨hB,zB⟩:=bon hb hB;refine kP r hr9.shape rfl rfl H1 zpN rfl rfl fun w10 u11 r=>?_;have Z10:=u11.size
 have H1:=u11.at_;obtain ⟨hB,zB⟩:=u11.on hB kw
 exact wn (ac (kR r hr9 rfl rfl H1 rfl zpM hF hB u11 kw kw kw))
def D.zc7 (j:Nat) (c0:Int) (c1:Plan) (c2:Int) (c3:(Int→T Int)) (a0:Int):T Int:=(bif (a0 !=(-1)) then (D.zaR c0) else (T.bind (D.zct j c1 c2) (fun x=>(D.zdQ c1 c2 c0 c3 x))))
theorem zjF (hF:kH F w0) (hj:n<j)
    (c0:Int) {c0b:Nat} (c0F:F c0b) (c0h:w0.heap[c0b]?=some (.cells ([(.int .i64 c0)]).toArray 3 (0,0))) (c1:Plan) {c1b:Nat} (c1F:F c1b) (c1h:w0.heap[c1b]?=some (.cells ((zpg c1)).toArray 23 (0,0))) (c2:Int) {c2b:Nat} (c2F:F c2b) (c2h:w0.heap[c2b]?=some (.cells ([(.int .i64 c2)]).toArray 3 (0,0))) {c3f:FuncId} {c3_1 c3_2:List Value} {c3:(Int→T Int)} {c3b:Nat} (c3F:F c3b) (c3h:w0.heap[c3b]?=some (.cells #[kf c3f c3_1 c3_2] 261 (0,0))) (c3n:FnT ar zpl i64 (n+1) F w0 (kf c3f c3_1 c3_2) c3) (a0:Int) :
    Calls ar 225 #[.int .i64 a0,zp c0b,zp c1b,zp c2b,zp c3b] w0 (zpp ar zpl n (D.zc7 j c0 c1 c2 c3 a0) F w0):=by
 refine kN Tryz.func225 rfl 16 rfl rfl fun fr r hB=>?_;have lc0b:=ah c0h
 have lc1b:=ah c1h;have lc2b:=ah c2h;have lc3b:=ah c3h;refine wsr ?_;refine za7 (.cells (kq zpl) 119 (0,0)) r (fun R=>za6 zpQ) rfl fun fr b1 w2 n3 r=>?_;obtain ⟨E1,Z2,H1,hB,zB⟩:=n3.all hB
 refine wn (aa (wsr (kM (I a0) r rfl rfl fun r=>kB r rfl rfl rfl rfl rfl fun r=>wn ?_)));refine ae (t:=(a0 !=(-1))) (r.ev rfl) (fun h4=>?_) (fun h4=>?_)
 ·
  refine wsr (kL (I c0) r rfl (keep hB c0h) to3 rfl rfl fun r=>?_);have hF1:=zpz hF hB b1
  refine kD r (zbd (F:=(kW F w0 w2 b1)) (n:=n) hF1 c0) rfl zqf rfl fun w5 v6 hb hr7 r=>?_;have Z5:=hb.size
  have H1:=keep hb H1;obtain ⟨hB,zB⟩:=bon hb hB;refine kP r hr7.shape rfl rfl H1 zpN rfl rfl fun w8 u9 r=>?_;have Z8:=u9.size
  have H1:=u9.at_;obtain ⟨hB,zB⟩:=u9.on hB kw
  refine wn (ac ?_);have hd:D.zc7 j c0 c1 c2 c3 a0=(D.zaR c0):=(zao h4).trans (rfl);have hs:=hr7.shape.cells;refine za5 r rfl rfl H1 (k:=7) hs.1 zpM ?_;rw [←hs.2.2,hd];exact rfin hF hB hr7 u9 kw kw kw
 refine ag (wsr (kG (zpg c1) 6 r rfl (keep hB c1h) ta23 rfl rfl fun r=>kL (I c2) r rfl (keep hB c2h) to3 rfl rfl fun r=>?_));have hF1:=zpz hF hB b1
 refine kD r (zi4 (j:=j) (F:=(kW F w0 w2 b1)) (n:=n) hF1 kw c1 c2) rfl zsG rfl fun w10 v11 hb hr12 r=>?_;have Z10:=hb.size
 have H1:=keep hb H1;obtain ⟨hB,zB⟩:=bon hb hB;refine za0 (.func (.func 226) #[] #[zp c1b,zp c2b,zp c0b,zp c3b]) r (fun R=>zaf r rfl) rfl fun fr r=>?_;have hF1:=zpz hF hB b1
 have f13:((kW F w0 w10 b1)) c1b:=(.inl c1F);have f14:((kW F w0 w10 b1)) c2b:=(.inl c2F);have f15:((kW F w0 w10 b1)) c0b:=(.inl c0F);have f16:((kW F w0 w10 b1)) c3b:=(.inl c3F);refine kD r (zcF (F:=(kW F w0 w10 b1)) (n:=n) hF1 (Rep.mono yae (Same.refl _ _) kw n _ _ hr12) ⟨226,[],[zp c1b,zp c2b,zp c0b,zp c3b],ztO,rfl,fun m hm x w' hs hz=>ziP (fun b hb=>ai (hF1 b hb) hz) c1 f13 (hs.at_ f13 (keep hB c1h)) c2 f14 (hs.at_ f14 (keep hB c2h)) c0 f15 (hs.at_ f15 (keep hB c0h)) f16 (hs.at_ f16 (keep hB c3h)) (c3n.mono kw (fun b h=>.inl h) ((Same.below hB hF).trans (hs.sub (fun b h=>.inl h))) (Nat.le_trans hB.size hz)) x⟩) rfl zqJ rfl fun w17 v18 hb hr19 r=>?_
 have Z17:=hb.size;have H1:=keep hb H1;obtain ⟨hB,zB⟩:=bon hb hB;refine kP r hr19.shape rfl rfl H1 zpN rfl rfl fun w20 u21 r=>?_;have Z20:=u21.size
 have H1:=u21.at_;obtain ⟨hB,zB⟩:=u21.on hB kw
 refine wn (ac ?_);have hd:D.zc7 j c0 c1 c2 c3 a0=(T.bind (D.zct j c1 c2) (fun x=>(D.zdQ c1 c2 c0 c3 x))):=(zaq h4).trans (rfl)
 have hs:=hr19.shape.cells;refine za5 r rfl rfl H1 (k:=7) hs.1 zpM ?_;rw [←hs.2.2,hd];exact rfin hF hB hr19 u21 kw kw kw
def D.zga (j:Nat) (a0:Plan) (a1:Int) (a2:Int):T Int:=(T.bind (D.zdI a0 a1 a2) (fun x=>(D.zc7 j a2 a0 a1 (fun x=>(D.zbI a2 x)) x)))
theorem zkV (hF:kH F w0) (hj:n<j)
    (a0:Plan) (a1:Int) (a2:Int) :
    Calls ar 141 #[aq (zpg a0),.int .i64 a1,.int .i64 a2] w0 (zpp ar zpl n (D.zga j a0 a1 a2) F w0):=by
 refine kN Tryz.func141 rfl 15 rfl rfl fun fr r hB=>?_;refine wsr ?_
 refine kX 23 (aq (zpg a0)) r rfl rfl fun b1 w2 n3 r=>?_;obtain ⟨E1,Z2,H1,hB,zB⟩:=n3.all hB
 refine kX 3 (I a1) r rfl rfl fun b4 w5 n6 r=>?_;have H1:=keep n6.below H1
 obtain ⟨E4,Z5,H4,hB,zB⟩:=n6.all hB;refine kX 3 (I a2) r rfl rfl fun b7 w8 n9 r=>?_;have H1:=keep n9.below H1
 have H4:=keep n9.below H4;obtain ⟨E7,Z8,H7,hB,zB⟩:=n9.all hB;refine za7 (.cells (kq zpl) 119 (0,0)) r (fun R=>za6 zpQ) rfl fun fr b10 w11 n12 r=>?_;have H1:=keep n12.below H1
 have H4:=keep n12.below H4;have H7:=keep n12.below H7;obtain ⟨E10,Z11,H10,hB,zB⟩:=n12.all hB;refine wn (wsr (za0 (.func (.func 221) #[] #[zp b7]) r (fun R=>zaf r rfl) rfl fun fr r=>?_));refine za7 (.cells #[.nilFunc] 261 (0,0)) r (fun R=>za6 zum) rfl fun fr b13 w14 n15 r=>?_
 have H1:=keep n15.below H1;have H4:=keep n15.below H4;have H7:=keep n15.below H7;have H10:=keep n15.below H10;obtain ⟨E13,Z14,H13,hB,zB⟩:=n15.all hB;refine zaD (.cells #[.func (.func 221) #[] #[zp b7]] 261 (0,0)) r (fun R=>zax r (o:=0) (v:=(.func (.func 221) #[] #[zp b7])) rfl rfl H13 zuB ak rfl rfl) rfl fun fr w16 u17 r=>?_;have Z16:=u17.size
 have H1:=u17.keep H1 kw
 have H4:=u17.keep H4 kw
 have H7:=u17.keep H7 kw
 have H10:=u17.keep H10 kw
 have H13:=u17.at_;obtain ⟨hB,zB⟩:=u17.on hB kw
 refine wn (wsr (kG (zpg a0) 6 r rfl H1 ta23 rfl rfl fun r=>kL (I a1) r rfl H4 to3 rfl rfl fun r=>kL (I a2) r rfl H7 to3 rfl rfl fun r=>?_));have hF1:=zpz hF hB b10
 refine kD r (zj0 (F:=(kW F w0 w16 b10)) (n:=n) hF1 a0 a1 a2) rfl zrJ rfl fun w18 v19 hb hr20 r=>?_;have Z18:=hb.size
 have H1:=keep hb H1;have H4:=keep hb H4;have H7:=keep hb H7;have H10:=keep hb H10;have H13:=keep hb H13;obtain ⟨hB,zB⟩:=bon hb hB;refine za0 (.func (.func 225) #[] #[zp b7,zp b1,zp b4,zp b13]) r (fun R=>zaf r rfl) rfl fun fr r=>?_;have hF1:=zpz hF hB b10
 have f21:((kW F w0 w18 b10)) b7:=(.inr ⟨kw,kw,kw⟩)
 have f22:((kW F w0 w18 b10)) b1:=(.inr ⟨kw,kw,kw⟩)
 have f23:((kW F w0 w18 b10)) b4:=(.inr ⟨kw,kw,kw⟩)
 have f24:((kW F w0 w18 b10)) b13:=(.inr ⟨kw,kw,kw⟩)
 have f26:((kW F w0 w18 b10)) b7:=(.inr ⟨kw,kw,kw⟩)
 have q25:FnT ar zpl i64 (n+1) (kW F w0 w18 b10) w18 (.func (.func 221) #[] #[zp b7]) (fun x=>(D.zbI a2 x)):=⟨221,[],[zp b7],zth,rfl,fun m hm x w' hs hz=>zk1 (fun b hb=>ai (hF1 b hb) hz) a2 f26 (hs.at_ f26 H7) x⟩
 refine kD r (zcF (F:=(kW F w0 w18 b10)) (n:=n) hF1 (Rep.mono yae (Same.refl _ _) kw n _ _ hr20) ⟨225,[],[zp b7,zp b1,zp b4,zp b13],zu5,rfl,fun m hm x w' hs hz=>zjF (j:=j) (fun b hb=>ai (hF1 b hb) hz) kw a2 f21 (hs.at_ f21 H7) a0 f22 (hs.at_ f22 H1) a1 f23 (hs.at_ f23 H4) f24 (hs.at_ f24 H13) (q25.mono kw (fun b h=>h) hs hz) x⟩) rfl zqJ rfl fun w27 v28 hb hr29 r=>?_
 have Z27:=hb.size;have H1:=keep hb H1;have H4:=keep hb H4;have H7:=keep hb H7;have H10:=keep hb H10;have H13:=keep hb H13;obtain ⟨hB,zB⟩:=bon hb hB;refine kP r hr29.shape rfl rfl H10 zpN rfl rfl fun w30 u31 r=>?_;have Z30:=u31.size
 have H1:=u31.keep H1 kw
 have H4:=u31.keep H4 kw
 have H7:=u31.keep H7 kw
 have H13:=u31.keep H13 kw
 have H10:=u31.at_;obtain ⟨hB,zB⟩:=u31.on hB kw
 exact wn (ac (kR r hr29 rfl rfl H10 rfl zpM hF hB u31 kw kw kw))
def D.zeF (j:Nat) (c0:Plan) (c1:Int) (c2:Int):T Int:=(D.zga j c0 c1 c2)
theorem zi0 (hF:kH F w0) (hj:n<j)
    (c0:Plan) {c0b:Nat} (c0F:F c0b) (c0h:w0.heap[c0b]?=some (.cells ((zpg c0)).toArray 23 (0,0))) (c1:Int) {c1b:Nat} (c1F:F c1b) (c1h:w0.heap[c1b]?=some (.cells ([(.int .i64 c1)]).toArray 3 (0,0))) (c2:Int) {c2b:Nat} (c2F:F c2b) (c2h:w0.heap[c2b]?=some (.cells ([(.int .i64 c2)]).toArray 3 (0,0))) :
    Calls ar 189 #[zp c0b,zp c1b,zp c2b] w0 (zpp ar zpl n (D.zeF j c0 c1 c2) F w0):=by
 refine kN Tryz.func189 rfl 8 rfl rfl fun fr r hB=>?_;have lc0b:=ah c0h
 have lc1b:=ah c1h;have lc2b:=ah c2h;refine wsr ?_;refine za7 (.cells (kq zpl) 119 (0,0)) r (fun R=>za6 zpQ) rfl fun fr b1 w2 n3 r=>?_;obtain ⟨E1,Z2,H1,hB,zB⟩:=n3.all hB
 refine wn (wsr (kG (zpg c0) 6 r rfl (keep hB c0h) ta23 rfl rfl fun r=>kL (I c1) r rfl (keep hB c1h) to3 rfl rfl fun r=>kL (I c2) r rfl (keep hB c2h) to3 rfl rfl fun r=>?_));have hF1:=zpz hF hB b1
 refine kD r (zkV (j:=j) (F:=(kW F w0 w2 b1)) (n:=n) hF1 kw c0 c1 c2) rfl zu4 rfl fun w4 v5 hb hr6 r=>?_;have Z4:=hb.size
 have H1:=keep hb H1;obtain ⟨hB,zB⟩:=bon hb hB;refine kP r hr6.shape rfl rfl H1 zpN rfl rfl fun w7 u8 r=>?_;have Z7:=u8.size
 have H1:=u8.at_;obtain ⟨hB,zB⟩:=u8.on hB kw
 exact wn (ac (kR r hr6 rfl rfl H1 rfl zpM hF hB u8 kw kw kw))
def D.zfr (j:Nat) (c0:Plan) (c1:Int) (c2:Int) (a0:Int):T Int:=(D.zb5 (D.zaJ c0 c1) (D.zak (D.zbl ((D.zan a0).1))) (fun _=>(D.zeF j c0 c2 c1)))
theorem zja (hF:kH F w0) (hj:n<j)
    (c0:Plan) {c0b:Nat} (c0F:F c0b) (c0h:w0.heap[c0b]?=some (.cells ((zpg c0)).toArray 23 (0,0))) (c1:Int) {c1b:Nat} (c1F:F c1b) (c1h:w0.heap[c1b]?=some (.cells ([(.int .i64 c1)]).toArray 3 (0,0))) (c2:Int) {c2b:Nat} (c2F:F c2b) (c2h:w0.heap[c2b]?=some (.cells ([(.int .i64 c2)]).toArray 3 (0,0))) (a0:Int) :
    Calls ar 187 #[.int .u64 a0,zp c0b,zp c1b,zp c2b] w0 (zpp ar zpl n (D.zfr j c0 c1 c2 a0) F w0):=by
 refine kN Tryz.func187 rfl 21 rfl rfl fun fr r hB=>?_;have lc0b:=ah c0h
 have lc1b:=ah c1h;have lc2b:=ah c2h;refine wsr ?_;refine za7 (.cells (kq zpl) 119 (0,0)) r (fun R=>za6 zpQ) rfl fun fr b1 w2 n3 r=>?_;obtain ⟨E1,Z2,H1,hB,zB⟩:=n3.all hB
 refine wn (wsr (kM (U a0) r rfl rfl fun r=>?_));refine kE r (zfI w2 a0) rfl zrr rfl fun w4 hb r=>?_
 have Z4:=hb.size;have H1:=keep hb H1;obtain ⟨hB,zB⟩:=bon hb hB;refine kM (.tuple #[(aq (zps (D.zan a0).1)),(.bool (D.zan a0).2)]) r rfl rfl fun r=>za0 (aq (zps (D.zan a0).1)) r (fun R=>zb1 r (vs:=#[(aq (zps (D.zan a0).1)),(.bool (D.zan a0).2)]) rfl rfl) rfl fun fr r=>za0 (.bool (D.zan a0).2) r (fun R=>zb1 r (vs:=#[(aq (zps (D.zan a0).1)),(.bool (D.zan a0).2)]) rfl rfl) rfl fun fr r=>?_;refine za7 (.cells ((zps (⟨0,0,0⟩:State))).toArray 190 (0,0)) r (fun R=>za6 zqj) rfl fun fr b5 w6 n7 r=>?_
 have H1:=keep n7.below H1;obtain ⟨E5,Z6,H5,hB,zB⟩:=n7.all hB;refine zaD (.cells ((zps ((D.zan a0).1))).toArray 190 (0,0)) r (fun R=>zax r (o:=0) (v:=(aq (zps (D.zan a0).1))) rfl rfl H5 zqd ak rfl rfl) rfl fun fr w8 u9 r=>?_;have Z8:=u9.size
 have H1:=u9.keep H1 kw
 have H5:=u9.at_;obtain ⟨hB,zB⟩:=u9.on hB kw
 refine kA (.bool (D.zan a0).2) r rfl rfl fun r=>wn (aa ?_);refine zaB 7 [.val (aq (zpg c0)),.val (I c1),.val (I (D.zaJ c0 c1)),.val (aq (zps (D.zan a0).1)),.val (.agg (zps (D.zbl ((D.zan a0).1))).toArray),.val (U (D.zak (D.zbl ((D.zan a0).1)))),.val (.func (.func 189) #[] #[zp c0b,zp c2b,zp c1b])] mixed r kz (kV (kV (kV (kV (kV (kV (kV zat))))))) ?_ ?_
 ·
  refine ec r (fun _ u _ b d s=>zac s (cs:=(zpg c0)) (n:=6) rfl (zpW hB b c0h) ta23 rfl bz) (ec r (fun _ u _ b d s=>za4 s rfl (zpW hB b c1h) to3 rfl bz) (ec r (fun fr1 u w' hb' hd r'=>zaF r' (args:=[(aq (zpg c0)),(I c1)]) (lc hd.1 (lc hd.2.1 l0)) zqw ((zbX _ c0 c1).mono yab)) (ec r (fun _ u _ b d s=>zac s (cs:=(zps ((D.zan a0).1))) (n:=3) rfl (keep b H5) zq9 rfl bz) (ec r (fun fr1 u w' hb' hd r'=>zaF r' (args:=[(aq (zps (D.zan a0).1))]) (lc hd.1 l0) zu3 ((zhu _ ((D.zan a0).1)).mono yab)) (ec r (fun fr1 u w' hb' hd r'=>zaF r' (args:=[(.agg (zps (D.zbl ((D.zan a0).1))).toArray)]) (lc hd.1 l0) zre ((zc6 _ (D.zbl ((D.zan a0).1))).mono yab)) (ec r (fun _ u _ b d s=>zaf s (v:=(.func (.func 189) #[] #[zp c0b,zp c2b,zp c1b])) rfl bz) ?_))))));exact zaO
 intro fr u w10 hb hΦ hne r;have r:=r.congr (sc (hΦ 6 ke) (sc (hΦ 5 ke) (sc (hΦ 4 ke) (sc (hΦ 3 ke) (sc (hΦ 2 ke) (sc (hΦ 1 ke) (sc (hΦ 0 ke) rfl)))))));have Z10:=hb.size;have H1:=keep hb H1;have H5:=keep hb H5;obtain ⟨hB,zB⟩:=bon hb hB;have hF1:=zpz hF hB b1;have f11:((kW F w0 w10 b1)) c0b:=(.inl c0F);have f12:((kW F w0 w10 b1)) c2b:=(.inl c2F);have f13:((kW F w0 w10 b1)) c1b:=(.inl c1F);refine kD r (zbB (F:=(kW F w0 w10 b1)) (n:=n) hF1 (D.zaJ c0 c1) (D.zak (D.zbl ((D.zan a0).1))) ⟨189,[],[zp c0b,zp c2b,zp c1b],zta,rfl,fun m hm _ w' hs hz=>zi0 (j:=j) (fun b hb=>ai (hF1 b hb) hz) kw c0 f11 (hs.at_ f11 (keep hB c0h)) c2 f12 (hs.at_ f12 (keep hB c2h)) c1 f13 (hs.at_ f13 (keep hB c1h))⟩) rfl zqn rfl fun w14 v15 hb hr16 r=>?_;have Z14:=hb.size
 have H1:=keep hb H1;have H5:=keep hb H5;obtain ⟨hB,zB⟩:=bon hb hB;refine kP r hr16.shape rfl rfl H1 zpN rfl rfl fun w17 u18 r=>?_;have Z17:=u18.size
 have H5:=u18.keep H5 kw
 have H1:=u18.at_;obtain ⟨hB,zB⟩:=u18.on hB kw
 exact wn (ac (kR r hr16 rfl rfl H1 rfl zpM hF hB u18 kw kw kw))
def D.zcp (j:Nat) (a0:Plan) (a1:Int) (a2:Int):T Int:=(D.zb2 (D.zaJ a0 a2) (fun x=>(D.zfr j a0 a2 a1 x)))
theorem zhA (hF:kH F w0) (hj:n<j)
    (a0:Plan) (a1:Int) (a2:Int) :
    Calls ar 104 #[aq (zpg a0),.int .i64 a1,.int .i64 a2] w0 (zpp ar zpl n (D.zcp j a0 a1 a2) F w0):=by
 refine kN Tryz.func104 rfl 12 rfl rfl fun fr r hB=>?_;refine wsr ?_
 refine kX 23 (aq (zpg a0)) r rfl rfl fun b1 w2 n3 r=>?_;obtain ⟨E1,Z2,H1,hB,zB⟩:=n3.all hB
 refine kX 3 (I a1) r rfl rfl fun b4 w5 n6 r=>?_;have H1:=keep n6.below H1
 obtain ⟨E4,Z5,H4,hB,zB⟩:=n6.all hB;refine kX 3 (I a2) r rfl rfl fun b7 w8 n9 r=>?_;have H1:=keep n9.below H1
 have H4:=keep n9.below H4;obtain ⟨E7,Z8,H7,hB,zB⟩:=n9.all hB;refine za7 (.cells (kq zpl) 119 (0,0)) r (fun R=>za6 zpQ) rfl fun fr b10 w11 n12 r=>?_;have H1:=keep n12.below H1
 have H4:=keep n12.below H4;have H7:=keep n12.below H7;obtain ⟨E10,Z11,H10,hB,zB⟩:=n12.all hB;refine wn (wsr (kG (zpg a0) 6 r rfl H1 ta23 rfl rfl fun r=>kL (I a2) r rfl H7 to3 rfl rfl fun r=>?_));refine kE r (zbX w11 a0 a2) rfl zqw rfl fun w13 hb r=>?_
 have Z13:=hb.size;have H1:=keep hb H1;have H4:=keep hb H4;have H7:=keep hb H7;have H10:=keep hb H10;obtain ⟨hB,zB⟩:=bon hb hB;refine za0 (.func (.func 187) #[] #[zp b1,zp b7,zp b4]) r (fun R=>zaf r rfl) rfl fun fr r=>?_;have hF1:=zpz hF hB b10
 have f14:((kW F w0 w13 b10)) b1:=(.inr ⟨kw,kw,kw⟩)
 have f15:((kW F w0 w13 b10)) b7:=(.inr ⟨kw,kw,kw⟩)
 have f16:((kW F w0 w13 b10)) b4:=(.inr ⟨kw,kw,kw⟩)
 refine kD r (zbz (F:=(kW F w0 w13 b10)) (n:=n) hF1 (D.zaJ a0 a2) ⟨187,[],[zp b1,zp b7,zp b4],ztr,rfl,fun m hm x w' hs hz=>zja (j:=j) (fun b hb=>ai (hF1 b hb) hz) kw a0 f14 (hs.at_ f14 H1) a2 f15 (hs.at_ f15 H7) a1 f16 (hs.at_ f16 H4) x⟩) rfl zqh rfl fun w17 v18 hb hr19 r=>?_;have Z17:=hb.size
 have H1:=keep hb H1;have H4:=keep hb H4;have H7:=keep hb H7;have H10:=keep hb H10;obtain ⟨hB,zB⟩:=bon hb hB;refine kP r hr19.shape rfl rfl H10 zpN rfl rfl fun w20 u21 r=>?_;have Z20:=u21.size
 have H1:=u21.keep H1 kw
 have H4:=u21.keep H4 kw
 have H7:=u21.keep H7 kw
 have H10:=u21.at_;obtain ⟨hB,zB⟩:=u21.on hB kw
 exact wn (ac (kR r hr19 rfl rfl H10 rfl zpM hF hB u21 kw kw kw))
end
theorem ztE:zpf ar 102:=kz
theorem cl14:zpf ar 14:=kz
theorem zlP:zpq ar 113 0 0:=kz
theorem znr:zpq ar 113 2 2:=kz
theorem to33:tyO ar 33:=kz
theorem ts23:sized ar 23 6:=kz
theorem tz23:zeroOf ar 23=some (aq (zpg (⟨0,0,0,0,0,0⟩:Plan))):=kz
theorem zmB {at_:Int} {f:Int→T Grant} {ws ws':List Int} {n:Nat} {r:Grant} (h0:0≤at_) (h1:at_<ws.length) (h:Runs (f (rd ws at_)) ws n r ws'):Runs (D.zf1 at_ f) ws (n+1) r ws':=Runs.load h0 h1 h
theorem zlT {at_ w:Int} {f:Unit→T Grant} {ws ws':List Int} {n:Nat} {r:Grant} (h0:0≤at_) (h1:at_<ws.length) (h:Runs (f ()) (ws.set at_.toNat w) n r ws'):Runs (D.zeG at_ w f) ws (n+1) r ws':=Runs.store h0 h1 h
def sp (p:Plan) (n:Int):Int:=D.za2 p+n * 5
section
variable {p : Plan} (hp : PF p) {n : Int} (hn : 0 ≤ n ∧ n < p.nodes)
include hp hn
theorem zqu:0<sp p n∧sp p n+5≤D.zab p∧D.zaJ p n=sp p n:=by
 have hN:=zbp hp;have hS:=zdx hp;refine ⟨by unfold sp; omega,by unfold sp; omega,by rw [zrD hp hn]; rfl⟩
end
theorem SF.live {s:State} (h:SF s) {k:Int} (hk:0≤k∧k≤2):SF (D.zaU s k):=⟨h.g0,h.g1,by show (0:Int)≤1; omega,by show (1:Int)≤3; omega,hk.1,hk.2⟩
theorem SF.freed {s:State} (h:SF s) {m:Int} (hm:m≤1073741823):SF (D.zag s m):=by
 unfold D.zag;have:=h.g0;have:=h.g1
 by_cases e:s.gen≥m
 ·rw [show decide (s.gen≥m)=true from by simpa using e]
  exact ⟨h.g0,h.g1,by show (0:Int)≤3; omega,by show (3:Int)≤3; omega,by show (0:Int)≤0; omega,by show (0:Int)≤2; omega⟩
 ·rw [show decide (s.gen≥m)=false from by simpa using e]
  simp only [cond_false]
  rw [zaN (x:=s.gen+1) kw kw]
  exact ⟨by show 0≤s.gen+1; omega,by show s.gen+1≤_; omega,by show (0:Int)≤0; omega,by show (0:Int)≤3; omega,by show (0:Int)≤0; omega,by show (0:Int)≤2; omega⟩
def StAt (p:Plan) (ws:List Int) (n:Int) (s:State):Prop:=rd ws (sp p n)=D.zak s∧SF s
theorem StAt.of {p:Plan} {ws:List Int} {n:Int} {s:State} (h:StAt p ws n s):D.zan (rd ws (sp p n))=(s,true):=by rw [h.1]; exact zou h.2
theorem zmU {p:Plan} (hp:PF p) {ws:List Int} {n k:Int} {s:State} (hn:0≤n∧n<p.nodes) (hl:Len p ws) (hs:StAt p ws n s) :
  Runs (D.zcP p n k) ws 2 ⟨n,s.gen,0⟩ (ws.set (sp p n).toNat (D.zak (D.zaU s k))):=by
 obtain ⟨q1,q2,q3⟩:=zqu hp hn;unfold Len at hl
 unfold D.zcP;rw [q3];refine zmB kw kw ?_;unfold D.zfW;rw [hs.of,q3];exact zlT kw kw (.done _ _)
theorem zlb {p:Plan} (hp:PF p) {ws:List Int} {n k:Int} {l:List Int} {g:Int} {s:State} (hF:FreeAt p ws (n::l) g) (hnn:p.nodes≤1000000) (hg:g<1000000) (hs:StAt p ws n s) (hk:0≤k∧k≤2) (J:Nat) {G:Int→T Grant} (hG:G n=D.zcP p n k) :
  ∃ ws',Runs (T.bind (D.zbP (J+1) p) G) ws 5 ⟨n,s.gen,0⟩ ws'∧ws'.length=ws.length∧FreeAt p ws' l (g+1)∧StAt p ws' n (D.zaU s k)∧∀ j,0<j→j≠sp p n→rd ws' j=rd ws j:=by
 have hn:=hF.range n (List.mem_cons_self ..);obtain ⟨q1,q2,q3⟩:=zqu hp hn;obtain ⟨hr,hF2⟩:=zo4 hp hF hnn hg J;have hN:=zbp hp;have hl:=hF.len;have hl2:=hF2.len;have hs0:=hs.1
 generalize hu:ws.set (0:Int).toNat ((g+1) * 2097152+first l)=u at hr hF2 hl2
 have hul:u.length=ws.length:=by rw [←hu,List.length_set]
 have hur:∀ j,0<j→rd u j=rd ws j:=fun j hj=>by rw [←hu,zbC kw kw kw,if_neg kw]
 have hsu:StAt p u n s:=⟨by rw [hur _ q1]; exact hs0,hs.2⟩
 have hg2:=zmU hp (k:=k) hn hl2 hsu;refine ⟨u.set (sp p n).toNat (D.zak (D.zaU s k)),?_,by rw [List.length_set,hul],?_,⟨?_,hs.2.live hk⟩,fun j hj hne=>?_⟩
 ·exact (Runs.bind (g:=G) hr (by rw [hG]; exact hg2)).cast (show 3+2=5 from rfl)
 ·refine hF2.keep (by rw [List.length_set]) ?_ fun m hm=>?_
  ·rw [zbC kw kw kw,if_neg kw]
  ·have hmr:=hF2.range m hm
   have:nx p m≠sp p n:=by unfold nx sp; omega
   rw [zbC kw kw yaC,if_neg this]
 ·rw [zbC kw kw kw,if_pos rfl]
 ·rw [zbC kw kw kw,if_neg hne,hur j hj]
theorem zoE {p:Plan} (hp:PF p) {ws:List Int} {n k t:Int} {l:List Int} {g:Int} {s:State} (hF:FreeAt p ws (n::l) g) (hnn:p.nodes≤1000000) (hg:g<1000000) (hs:StAt p ws n s) (hk:0≤k∧k≤2) (J:Nat) :
  ∃ ws',Runs (D.zfO (J+1) p t k) ws 5 ⟨n,s.gen,0⟩ ws'∧ws'.length=ws.length∧FreeAt p ws' l (g+1)∧StAt p ws' n (D.zaU s k)∧∀ j,0<j→j≠sp p n→rd ws' j=rd ws j:=by
 have hn:=hF.range n (List.mem_cons_self ..);refine zlb hp hF hnn hg hs hk J (G:=fun x=>D.zcU (J+1) p k t (fun x=>D.zbA p k x) x) ?_
 unfold D.zcU;rw [show (n !=-1)=true from by simp; omega]
 rfl
theorem zmH {p:Plan} (hp:PF p) {ws:List Int} {k g:Int} (hF:FreeAt p ws [] g) (hg:g<1000000) (J:Nat):Runs (T.bind (D.zbP (J+1) p) (fun x=>D.zbA p k x)) ws 1 ⟨-1,0,4⟩ ws:=
 (Runs.bind (g:=fun x=>D.zbA p k x) (zma hp hF hg J) (.done _ _)).cast (show 1+0=1 from rfl)
theorem zmN {p:Plan} (hp:PF p) {ws:List Int} {n k:Int} {l:List Int} {g:Int} {s:State} (hF:FreeAt p ws (n::l) g) (hnn:p.nodes≤1000000) (hg:g<1000000) (hs:StAt p ws n s) (hk:0≤k∧k≤2) (J:Nat) :
  ∃ ws',Runs (T.bind (D.zbP (J+1) p) (fun x=>D.zbA p k x)) ws 5 ⟨n,s.gen,0⟩ ws'∧ws'.length=ws.length∧FreeAt p ws' l (g+1)∧StAt p ws' n (D.zaU s k)∧∀ j,0<j→j≠sp p n→rd ws' j=rd ws j:=by
 have hn:=hF.range n (List.mem_cons_self ..);refine zlb hp hF hnn hg hs hk J (G:=fun x=>D.zbA p k x) ?_
 unfold D.zbA;rw [show (n==-1)=false from by simp; omega]
 rfl
theorem zmL {p:Plan} (hp:PF p) {ws:List Int} {t n:Int} {r:List Int} (ht:0≤t∧t<p.threads) (hn:0≤n∧n<p.nodes) (hnn:p.nodes≤1000000) (hl:Len p ws) (h:RetAt p ws t r) (hf:(r.length:Int)<p.retire) (J:Nat) :
  ∃ ws',Runs (D.zga J p t n) ws 3 n ws'∧ws'.length=ws.length∧RetAt p ws' t (r++[n])∧∀ j,0≤j→j≠rb p t→j≠rb p t+1+r.length→rd ws' j=rd ws j:=by
 obtain ⟨ws',hr,hl',hR,ho⟩:=zmj hp ht hn hnn hl h hf;refine ⟨ws',?_,hl',hR,ho⟩;refine (Runs.bind (g:=fun x=>D.zc7 J n p t (fun x=>D.zbI n x) x) hr ?_).cast (show 3+0=3 from rfl)
 unfold D.zc7;rw [show ((r.length:Int)+1 !=-1)=true from by simp; omega]
 exact .done _ _
theorem zox:D.zak ⟨0,0,0⟩=0:=by rw [zmo ⟨ke,ke,ke,ke,ke,ke⟩]; rfl
theorem zmD {p:Plan} (hp:PF p) {ws:List Int} (h:LaidAt p ws) {n:Int} (hn:0≤n∧n<p.nodes):StAt p ws n ⟨0,0,0⟩:=by
 obtain ⟨q1,q2,q3⟩:=zqu hp hn;refine ⟨?_,ke,ke,ke,ke,ke,ke⟩
 rw [zox]
 exact h.zero _ q1 fun m _ _=>by unfold sp; omega
theorem zo0 {p:Plan} (hp:PF p) {ws:List Int} (h:LaidAt p ws) {t:Int} (ht:0≤t∧t<p.threads):RetAt p ws t []:=by
 obtain ⟨q1,q2,q3⟩:=zq2 hp ht;have hr1:=hp.r1;have ht1:=hp.t1;exact ⟨h.zero _ q3 fun m _ _=>kw,by simp; omega,fun i hi=>(by cases hi),fun _ h=>(by cases h)⟩
theorem ziI:∀ (k:Nat) (r:List Int),k=r.length→zpY (fun _=>false) k r=([],r.reverse)
 | 0,r,h=>by rw [List.length_eq_zero_iff.1 h.symm]; rfl
 | k+1,r,h=>by
  rcases List.eq_nil_or_concat r with rfl | ⟨s,z,rfl⟩
  ·cases h
  rw [List.concat_eq_append] at *
  have hk:k=s.length:=by simpa using h
  have e1:(s++[z])[k]?=some z:=by rw [hk]; simp
  have e2:((s++[z]).set k (((s++[z]).getLast?).getD 0)).dropLast=s:=by
   rw [hk]; simp
  simp only [zpY,e1,Bool.false_eq_true,if_false,e2,ziI k s hk]
  simp
structure Pool where
 fr:List Int
 rt:List Int
 st:Int→State
def Pool.back (m:Int) (P:Pool) (n:Int):Pool:=
 ⟨if (D.zag (P.st n) m).mode=3 then P.fr else n::P.fr,P.rt,fun q=>if q=n then D.zag (P.st n) m else P.st q⟩
def Pool.scan (P:Pool) (m:Int):Pool:=P.rt.reverse.foldl (Pool.back m) ⟨P.fr,[],P.st⟩
theorem zh0 (m:Int):∀ (l:List Int) (P:Pool),(l.foldl (Pool.back m) P).rt=P.rt
 | [],_=>rfl
 | n::l,P=>by rw [List.foldl_cons,zh0 m l]; rfl
theorem zlX (m:Int):∀ (l:List Int) (P:Pool),l.Nodup→∀ n,(l.foldl (Pool.back m) P).st n=if n∈l then D.zag (P.st n) m else P.st n
 | [],_,_,_=>rfl
 | a::l,P,hn,n=>by
  obtain ⟨h1,h2⟩:=List.nodup_cons.1 hn;rw [List.foldl_cons,zlX m l _ h2]
  by_cases e:n=a
  ·subst e
   rw [if_neg h1,if_pos (List.mem_cons_self ..)]
   exact if_pos rfl
  ·have hs:(Pool.back m P a).st n=P.st n:=if_neg e
   rw [hs]
   by_cases h:n∈l
   ·rw [if_pos h,if_pos (List.mem_cons_of_mem _ h)]
   ·rw [if_neg h,if_neg (fun h'=>by rcases List.mem_cons.1 h' with h' | h'; exact e h'; exact h h')]
theorem zl7 (m:Int):∀ (l:List Int) (P:Pool),l.Nodup→(l.foldl (Pool.back m) P).fr=l.foldl (fun l n=>if (D.zag (P.st n) m).mode=3 then l else n::l) P.fr
 | [],_,_=>rfl
 | a::l,P,hn=>by
  obtain ⟨h1,h2⟩:=List.nodup_cons.1 hn;rw [List.foldl_cons,List.foldl_cons,zl7 m l _ h2];have:∀ (k:List Int) (L L':List Int),(∀ q,q∈k→q≠a)→L=L'→k.foldl (fun l n=>if (D.zag ((Pool.back m P a).st n) m).mode=3 then l else n::l) L=k.foldl (fun l n=>if (D.zag (P.st n) m).mode=3 then l else n::l) L':=by
   intro k
   induction k with
   | nil=>rintro L _ _ rfl; rfl
   | cons q k ih=>
    rintro L _ hq rfl;rw [List.foldl_cons,List.foldl_cons];have hs:(Pool.back m P a).st q=P.st q:=if_neg (hq q (List.mem_cons_self ..));exact ih _ _ (fun q' h=>hq q' (List.mem_cons_of_mem _ h)) (by rw [hs])
  exact this l _ _ (fun q hq e=>h1 (e ▸ hq)) rfl
structure PoolAt (p:Plan) (t:Int) (ws:List Int) (P:Pool) (g:Int):Prop where
 free:FreeAt p ws P.fr g
 ret:RetAt p ws t P.rt
 nod:P.rt.Nodup
 dis:∀ n,n∈P.rt→n ∉ P.fr
 st:∀ n,0≤n→n<p.nodes→StAt p ws n (P.st n)
 hz:∀ j,0≤j→j<p.threads * 3→rd ws (D.za1 p+j)=0
 zero:∀ n f,n∈P.fr→0≤f→f<3→rd ws (sp p n+2+f)=0
def KeptP (p:Plan) (t:Int) (P:Pool) (ws ws':List Int):Prop:=
 ws'.length=ws.length∧∀ j,0<j→(∀ n,n∈P.fr∨n∈P.rt→¬ zpD p n j)→¬ (rb p t≤j∧j<rb p t+1+p.retire)→rd ws' j=rd ws j
theorem PoolAt.scan {p:Plan} (hp:PF p) (hnn:p.nodes≤1000) {t:Int} (ht:0≤t∧t<p.threads) {ws:List Int} {P:Pool} {g:Int} (h:PoolAt p t ws P g) (hg:g<900000) (J:Nat) (hJ:1100<J) :
  ∃ (m:Nat) (ws':List Int) (g':Int),m≤70 * P.rt.length+1∧g'≤g+P.rt.length∧Runs (D.zct J p t) ws m (P.rt.length:Int) ws'∧PoolAt p t ws' (P.scan p.gen) g'∧KeptP p t P ws ws':=by
 have hN:=zbp hp;have hz:=zpZ hp;obtain ⟨p1,p2,p3⟩:=zq2 hp ht;have hh:∀ n,n∈P.rt→((fun _=>false) n=true↔heldW p ws n):=by
  intro n hn;have:=(h.ret.range n hn).1
  constructor
  ·intro h; cases h
  ·rintro ⟨j,j0,j1,hj⟩
   rw [h.hz j j0 j1] at hj
   omega
 obtain ⟨m,ws',hm,hr,hs⟩:=zlq hp hnn ht J hJ h.free.len h.ret h.free (fun n hn=>h.dis n hn) h.nod hh hg
 rw [ziI P.rt.length P.rt rfl] at hr hs
 simp only [List.length_reverse] at hr
 obtain ⟨g',hg',hF⟩:=hs.free;have hnr:P.rt.reverse.Nodup:=List.pairwise_reverse.2 (h.nod.imp fun h e=>h e.symm)
 have htof:∀ n,n∈P.rt→tof p ws n=D.zag (P.st n) p.gen:=fun n hn=>by
  have hn':=h.ret.range n hn;unfold tof;have:=(h.st n hn'.1 hn'.2).of;unfold sp at this
  rw [this]
 have hfr:pushAll p ws P.rt.reverse P.fr=(P.scan p.gen).fr:=by
  unfold Pool.scan;rw [zl7 _ _ _ hnr];unfold pushAll;have:∀ (k L:List Int),(∀ n,n∈k→n∈P.rt)→k.foldl (fun l n=>if (tof p ws n).mode=3 then l else n::l) L=k.foldl (fun l n=>if (D.zag (P.st n) p.gen).mode=3 then l else n::l) L:=by
   intro k
   induction k with
   | nil=>intro _ _; rfl
   | cons q k ih=>
    intro L hq;rw [List.foldl_cons,List.foldl_cons,htof q (hq q (List.mem_cons_self ..))];exact ih _ fun n hn=>hq n (List.mem_cons_of_mem _ hn)
  exact this _ _ fun n hn=>List.mem_reverse.1 hn
 have hsub:∀ n,n∈(P.scan p.gen).fr→n∈P.rt∨n∈P.fr:=fun n hn=>by
  rw [←hfr] at hn
  rcases zhG hn with h | h
  ·exact .inl (List.mem_reverse.1 h)
  ·exact .inr h
 have hrt:(P.scan p.gen).rt=[]:=zh0 _ _ _;rw [hfr] at hF
 have hst:∀ n,(P.scan p.gen).st n=if n∈P.rt then D.zag (P.st n) p.gen else P.st n:=fun n=>by
  unfold Pool.scan;rw [zlX _ _ _ hnr];simp only [List.mem_reverse]
 have hrr:=h.ret.range;have hkeep:∀ j,0<j→(∀ n,n∈P.rt→¬ zpD p n j)→¬ (rb p t≤j∧j<rb p t+1+p.retire)→rd ws' j=rd ws j:=fun j j0 h1 h2=>hs.others j j0 (fun n hn=>h1 n (List.mem_reverse.1 hn)) h2
 have hge:=hp.g2;refine ⟨m,ws',g',hm,by simpa using hg',hr,⟨hF,by rw [hrt]; exact hs.ret,by rw [hrt]; exact List.nodup_nil,fun n hn=>(by rw [hrt] at hn; cases hn),fun n n0 n1=>?_,fun j j0 j1=>?_,fun n f hn f0 f1=>?_⟩,hs.len,fun j j0 h1 h2=>hkeep j j0 (fun n hn=>h1 n (.inr hn)) h2⟩
 ·rw [hst]
  by_cases hn:n∈P.rt
  ·rw [if_pos hn]
   refine ⟨?_,(h.st n n0 n1).2.freed kw⟩;have:=hs.states n (List.mem_reverse.2 hn);rw [htof n hn] at this
   exact this
  ·rw [if_neg hn]
   refine ⟨?_,(h.st n n0 n1).2⟩;rw [hkeep (sp p n) yaj (fun q hq hq'=>?_) yaj]
   ·exact (h.st n n0 n1).1
   ·unfold zpD sp at hq'
    exact hn (by rw [show n=q by omega]; exact hq)
 ·rw [hkeep _ kw (fun q hq=>by have:=(hrr q hq).1; unfold zpD; omega) kw]
  exact h.hz j j0 j1
 ·by_cases hq:n∈P.rt
  ·exact hs.fields n f (List.mem_reverse.2 hq) f0 f1
  ·have hnf:n∈P.fr:=(hsub n hn).resolve_left hq
   have:=h.free.range n hnf;rw [hkeep _ yaj (fun q hq' hq''=>?_) yaj]
   ·exact h.zero n f hnf f0 f1
   ·unfold zpD sp at hq''
    exact hq (by rw [show n=q by omega]; exact hq')
def Pool.out (P:Pool) (k:Int):Pool × Grant:=
 match P.fr with
 | []=>(P,⟨-1,0,4⟩)
 | n::l=>(⟨l,P.rt,fun q=>if q=n then D.zaU (P.st n) k else P.st q⟩,⟨n,(P.st n).gen,0⟩)
def Pool.grant (P:Pool) (m k:Int):Pool × Grant:=match P.fr with
 | []=>(P.scan m).out k
 | _::_=>P.out k
theorem PoolAt.took {p:Plan} (hp:PF p) {t:Int} (ht:0≤t∧t<p.threads) {ws ws':List Int} {n k:Int} {l r:List Int} {st:Int→State} {g:Int} (h:PoolAt p t ws ⟨n::l,r,st⟩ g) (hk:0≤k∧k≤2)
  (hl:ws'.length=ws.length) (hF:FreeAt p ws' l (g+1)) (hst:StAt p ws' n (D.zaU (st n) k)) (ho:∀ j,0<j→j≠sp p n→rd ws' j=rd ws j) :
  PoolAt p t ws' ⟨l,r,fun q=>if q=n then D.zaU (st n) k else st q⟩ (g+1):=by
 have hN:=zbp hp;have hz:=zpZ hp;obtain ⟨p1,p2,p3⟩:=zq2 hp ht;have hn:=h.free.range n (List.mem_cons_self ..);refine ⟨hF,h.ret.keep fun j j0 j1=>ho j kw yaj,h.nod,fun q hq hq'=>h.dis q hq (List.mem_cons_of_mem _ hq'),fun q q0 q1=>?_,fun j j0 j1=>?_,fun q f hq f0 f1=>?_⟩
 ·by_cases e:q=n
  ·subst e
   show StAt p ws' q (if q=q then _ else _)
   rw [if_pos rfl]; exact hst
  ·show StAt p ws' q (if q=n then _ else _)
   rw [if_neg e]
   have:=h.st q q0 q1;exact ⟨by rw [ho _ yaj yaj]; exact this.1,this.2⟩
 ·rw [ho _ kw yaj]; exact h.hz j j0 j1
 ·have hqr:=h.free.range q (List.mem_cons_of_mem _ hq)
  rw [ho _ yaj yaj]
  exact h.zero q f (List.mem_cons_of_mem _ hq) f0 f1
theorem zfX {P:Pool} {m n:Int} (hd:P.rt.Nodup) (h:n∈(P.scan m).fr):n∈P.rt∨n∈P.fr:=by
 unfold Pool.scan at h
 rw [zl7 m _ _ (List.pairwise_reverse.2 (hd.imp fun h e=>h e.symm))] at h
 have:∀ (k L:List Int),n∈k.foldl (fun l n=>if (D.zag (P.st n) m).mode=3 then l else n::l) L→n∈k∨n∈L:=by
  intro k
  induction k with
  | nil=>exact fun L h=>.inr h
  | cons a k ih=>
   intro L h
   rcases ih _ h with h | h
   ·exact .inl (List.mem_cons_of_mem _ h)
   ·replace h:n∈(if (D.zag (P.st a) m).mode=3 then L else a::L):=h
    split at h
    ·exact .inr h
    ·rcases List.mem_cons.1 h with rfl | h
     ·exact .inl (List.mem_cons_self ..)
     ·exact .inr h
 rcases this _ _ h with h | h
 ·exact .inl (List.mem_reverse.1 h)
 ·exact .inr h
def Pool.stash (P:Pool) (room m n:Int):Pool:=
 let Q:=if (P.rt.length:Int)<room then P else P.scan m
 ⟨Q.fr,Q.rt++[n],Q.st⟩
theorem zrq:zpf ar 118:=kz
theorem zrc:zpf ar 124:=kz
theorem cl15:zpf ar 15:=kz
theorem cl99:zpf ar 99:=kz
theorem zdP:zpq ar 47 0 0:=kz
theorem zjQ:zpq ar 47 2 7:=kz
theorem ta47:tyA ar 47 8:=kz
theorem cl29:zpf ar 29:=kz
theorem zpb:zpq ar 36 0 0:=kz
def hof (w:Int):Handle × Bool:=if w / 72057594037927936 % 4=0∧w / 288230376151711744=42 then (⟨w % 1048576,w / 1048576 % 1073741824,w / 1125899906842624 % 64⟩,true) else (⟨0,0,0⟩,false)
theorem runR {t:T Res} {M:Mem} {ws':List Int} {n:Nat} {most:Int} {r:Res} {fu:Nat} (h:Runs t M.ws n r ws') (hm:(n:Int)≤most) (hm2:most≤1000000) (hn:n<fu):∃ c,D.zdK fu (fu,t) M cap0 most=some (r,(n:Int),true,⟨ws',c⟩):=by
 have h2:=znJ (z:=(⟨0,0⟩:Res)) (fu:=fu) (d:=fu) (most:=most) h hm hm2 (Nat.le_of_lt hn) hn;exact h2
theorem zkm {at_:Int} {f:Int→T Res} {ws ws':List Int} {n:Nat} {r:Res} (h0:0≤at_) (h1:at_<ws.length) (h:Runs (f (rd ws at_)) ws n r ws'):Runs (D.zc5 at_ f) ws (n+1) r ws':=Runs.load h0 h1 h
theorem zio {at_ was w:Int} {f:Bool→T Res} {ws ws':List Int} {n:Nat} {r:Res} (h0:0≤at_) (h1:at_<ws.length) (h:Runs (f (rd ws at_==was)) (if rd ws at_=was then ws.set at_.toNat w else ws) n r ws'):Runs (D.zd3 at_ was w f) ws (n+1) r ws':=by
 refine Runs.act (op:=2) kw (ziM h0 h1) ?_;have:acted 2 at_ was w (rd ws at_) ws=(if rd ws at_=was then ws.set at_.toNat w else ws):=by simp [acted]
 rw [this]
 exact h
def fp (p:Plan) (n f:Int):Int:=sp p n+2+f
theorem PoolAt.start {p:Plan} (hp:PF p) {ws:List Int} (h:LaidAt p ws) {t:Int} (ht:0≤t∧t<p.threads):PoolAt p t ws ⟨allN p,[],fun _=>⟨0,0,0⟩⟩ 0:=by
 have hN:=zbp hp;have hF:=zmW hp h;refine ⟨hF,zo0 hp h ht,List.nodup_nil,fun _ h=>(by cases h),fun n n0 n1=>zmD hp h ⟨n0,n1⟩,fun j j0 j1=>zot hp h j0 j1,fun n f hn f0 f1=>?_⟩
 have hr:=hF.range n hn;exact h.zero _ yaj fun m _ _=>by unfold sp; omega
/-! ### Guards -/
theorem zmJ {p:Plan} (hp:PF p) {ws:List Int} (hl:Len p ws) {t s at_ sh w:Int} (ht:0≤t∧t<p.threads) (hs:0≤s∧s<3) (h0:0≤at_) (h1:at_<D.zab p) (hne:at_≠D.za1 p+t * 3+s)
  (hw0:0≤w) (hw1:w<1099511627776) (hsh:0≤sh∧sh<3) (hw:rd ws at_=w) (k:Nat) :
  (w / 2 ^ sh.toNat - 1<0→Runs (D.zc3 (k+1) p t s at_ sh w) ws 0 w ws)∧
  (¬ w / 2 ^ sh.toNat - 1<0→Runs (D.zc3 (k+1) p t s at_ sh w) ws 2 w (ws.set (D.za1 p+t * 3+s).toNat (w / 2 ^ sh.toNat))):=by
 obtain ⟨h2,h3,h4⟩:=zod hw0 hsh;obtain ⟨g1,g2,g3,g4⟩:=zpZ hp;have hn1:=hp.n1;have hb:D.zc3 (k+1) p t s at_ sh w=D.zbH (D.zc3 k) p t s at_ sh w:=rfl;have hq:IntKind.i64.wrap (IntKind.i64.wrap (shrI .u64 w sh) - 1)=w / 2 ^ sh.toNat - 1:=by
  rw [h2,zaN (x:=w / 2 ^ sh.toNat) kw kw,zaN kw kw]
 constructor
 ·intro hlt
  rw [hb]
  unfold D.zbH;rw [hq,show decide (w / 2 ^ sh.toNat - 1<0)=true from by simpa using hlt]
  exact .done _ _
 ·intro hge
  rw [hb]
  unfold D.zbH;rw [hq,show decide (w / 2 ^ sh.toNat - 1<0)=false from by simpa using hge]
  have hr:=zk2 hp hl ht hs (n:=w / 2 ^ sh.toNat - 1) kw
  rw [show w / 2 ^ sh.toNat - 1+1=w / 2 ^ sh.toNat from by omega] at hr
  show Runs ((D.zcx p t s (w / 2 ^ sh.toNat - 1)).bind fun _=>D.zep (D.zc3 k) at_ w p t s sh) ws (1+1) w _
  refine Runs.bind hr ?_;unfold Len at hl
  show Runs (.act 0 at_ 0 0 _) _ 1 _ _
  refine .load h0 (by simpa [hl] using h1) ?_;have hx:rd (ws.set (D.za1 p+t * 3+s).toNat (w / 2 ^ sh.toNat)) at_=w:=by
   rw [zbC kw kw h0,if_neg hne,hw]
  rw [hx]
  unfold D.zcw;rw [show (w==w)=true from by simp]
  exact .done _ _
theorem zs5:zpf ar 104:=kz
theorem zud:zpf ar 247:=kz
theorem cl36:zpf ar 36:=kz
theorem zmM {at_:Int} {f:Int→T Int} {ws ws':List Int} {n:Nat} {r:Int} (h0:0≤at_) (h1:at_<ws.length) (h:Runs (f (rd ws at_)) ws n r ws'):Runs (D.zb2 at_ f) ws (n+1) r ws':=Runs.load h0 h1 h
theorem zkl {at_:Int} {f:Int→T Int} {ws ws':List Int} {n:Nat} {r:Int} (h0:0≤at_) (h1:at_<ws.length) (h:Runs (f (rd ws at_)) ws n r ws'):Runs (D.zdu at_ f) ws (n+1) r ws':=Runs.load h0 h1 h
theorem zlZ {at_ w:Int} {f:Unit→T Int} {ws ws':List Int} {n:Nat} {r:Int} (h0:0≤at_) (h1:at_<ws.length) (h:Runs (f ()) (ws.set at_.toNat w) n r ws'):Runs (D.zb5 at_ w f) ws (n+1) r ws':=Runs.store h0 h1 h
end Go.Proofs.YtbbipmelhmgmfaaGreat
