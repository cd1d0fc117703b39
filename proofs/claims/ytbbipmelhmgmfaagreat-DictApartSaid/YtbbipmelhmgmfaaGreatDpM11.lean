/- Some of our texts, one behind the other. -/
import Derived.Test.YtbbipmelhmgmfaaGreatDpM10
import Derived.Test.YtbbipmelhmgmfaaGreatDpMems
set_option linter.all false
set_option maxRecDepth 100000
set_option maxHeartbeats 20000000
/- Ours. -/
namespace Go.Proofs.YtbbipmelhmgmfaaGreat
open Go.RowKit
section
variable {n : Nat} {F : Nat → Prop} {j : Nat} {w0 : World}
theorem zrx:zpf ar 229:=kz
theorem zsI:zpf ar 302:=kz
theorem zsC:zpf ar 303:=kz
theorem zsb:zpf ar 304:=kz
theorem zrI:zpf ar 313:=kz
theorem ztn:zpf ar 314:=kz
theorem zrU:zpf ar 315:=kz
theorem zuj:zpf ar 353:=kz
theorem zsw:zpf ar 359:=kz
theorem zuF:zpf ar 361:=kz
theorem ztg:zpf ar 362:=kz
theorem zsc:zpf ar 380:=kz
theorem zrK:zpf ar 395:=kz
theorem ztL:zpf ar 396:=kz
theorem ztf:zpf ar 397:=kz
def D.zdv (a0:Int):Int:=(IntKind.u64.wrap (IntKind.i64.wrap (a0+1)))
theorem zie (w0:World) 
    (a0:Int) :
    Calls ar 303 #[.int .i64 a0] w0 (zpx (.int .u64 (D.zdv a0)) w0):=by
 refine kN Tryz.func303 rfl 6 rfl rfl fun fr r hB=>?_;refine wsr (kA (U 0) r rfl rfl fun r=>wn (wsr (kM (I a0) r rfl rfl fun r=>kB r rfl rfl rfl rfl rfl fun r=>za0 (U (V (W (a0+1)))) r (fun R=>zb9 r rfl ti3 ti34) rfl fun fr r=>kA (U (V (W (a0+1)))) r rfl rfl fun r=>wn (ac ?_))))
 refine zaH r rfl rfl ?_;exact ⟨rfl,hB⟩
def D.zbJ (aD:Plan→Int→Int→T Bool) (c0:Int) (c1:Plan) (c2:Int) (a0:Int):T Bool:=(bif (a0==(D.zdv c0)) then (D.zdn true) else (aD c1 c0 (IntKind.i64.wrap (c2+1))))
def D.zbi (aD:Plan→Int→Int→T Bool) (a0:Plan) (a1:Int) (a2:Int):T Bool:=(bif (a2==(IntKind.i64.wrap (a0.threads * 3))) then (D.zdn false) else (D.zfp (D.zbr a0 (IntKind.i64.wrap (a2.tdiv 3)) (a2.tmod 3)) (fun x=>(D.zbJ aD a1 a0 a2 x))))
def D.zbF:Nat→Plan→Int→Int→T Bool
 | 0,_,_,_=>.cut
 | k+1,a0,a1,a2=>D.zbi (D.zbF k) a0 a1 a2
def zey (r:Plan→Int→Int→T Bool) (n:Nat):Prop:=∀ (F:Nat→Prop) (w0:World),(∀ b,F b→b<w0.heap.size)→∀ (a0:Plan) (a1:Int) (a2:Int),Calls ar 380 #[aq (zpg a0),.int .i64 a1,.int .i64 a2] w0 (zpp ar zpH n (r a0 a1 a2) F w0)
theorem zjG {aD:Plan→Int→Int→T Bool} (hF:kH F w0) (aS:∀ m,m≤n→zey aD m)
    (c0:Int) {c0b:Nat} (c0F:F c0b) (c0h:w0.heap[c0b]?=some (.cells ([(.int .i64 c0)]).toArray 3 (0,0))) (c1:Plan) {c1b:Nat} (c1F:F c1b) (c1h:w0.heap[c1b]?=some (.cells ((zpg c1)).toArray 23 (0,0))) (c2:Int) {c2b:Nat} (c2F:F c2b) (c2h:w0.heap[c2b]?=some (.cells ([(.int .i64 c2)]).toArray 3 (0,0))) (a0:Int) :
    Calls ar 397 #[.int .u64 a0,zp c0b,zp c1b,zp c2b] w0 (zpp ar zpH n (D.zbJ aD c0 c1 c2 a0) F w0):=by
 refine kN Tryz.func397 rfl 16 rfl rfl fun fr r hB=>?_;have lc0b:=ah c0h
 have lc1b:=ah c1h;have lc2b:=ah c2h;refine wsr ?_;refine za7 (.cells (kq zpH) 318 (0,0)) r (fun R=>za6 zqx) rfl fun fr b1 w2 n3 r=>?_;obtain ⟨eb1,zw2,hb1,hB,zB⟩:=n3.all hB
 refine wn (aa (wsr (kM (U a0) r rfl rfl fun r=>kL (I c0) r rfl (keep hB c0h) to3 rfl rfl fun r=>?_)));refine kE r (zie w2 c0) rfl zsC rfl fun w4 hb r=>?_
 have zw4:=hb.size;have hb1:=keep hb hb1;obtain ⟨hB,zB⟩:=bon hb hB;refine kB r rfl rfl rfl rfl rfl fun r=>wn ?_;refine ae (t:=(a0==(D.zdv c0))) (r.ev rfl) (fun h5=>?_) (fun h5=>?_)
 ·
  refine wsr ?_;have hF1:=zpz hF hB b1;refine kD r (zgk (F:=(kW F w0 w4 b1)) (n:=n) hF1 true) rfl zrK rfl fun w6 v7 hb hr8 r=>?_;have zw6:=hb.size
  have hb1:=keep hb hb1;obtain ⟨hB,zB⟩:=bon hb hB;refine kP r hr8.shape rfl rfl hb1 zqm rfl rfl fun w9 u10 r=>?_;have zw9:=u10.size
  have hb1:=u10.at_;obtain ⟨hB,zB⟩:=u10.on hB kw
  refine wn (ac ?_);have hd:D.zbJ aD c0 c1 c2 a0=(D.zdn true):=(zao h5).trans (rfl);have hs:=hr8.shape.cells;refine za5 r rfl rfl hb1 (k:=7) hs.1 zql ?_;rw [←hs.2.2,hd];exact rfin hF hB hr8 u10 kw kw kw
 refine ag (wsr (kG (zpg c1) 6 r rfl (keep hB c1h) ta23 rfl rfl fun r=>kL (I c0) r rfl (keep hB c0h) to3 rfl rfl fun r=>kL (I c2) r rfl (keep hB c2h) to3 rfl rfl fun r=>kB r rfl rfl rfl rfl rfl fun r=>?_));have hF1:=zpz hF hB b1
 refine kD r ((aS n kw) (kW F w0 w4 b1) _ hF1 c1 c0 (W (c2+1))) rfl zsc rfl fun w11 v12 hb hr13 r=>?_;have zw11:=hb.size
 have hb1:=keep hb hb1;obtain ⟨hB,zB⟩:=bon hb hB;refine kP r hr13.shape rfl rfl hb1 zqm rfl rfl fun w14 u15 r=>?_;have zw14:=u15.size
 have hb1:=u15.at_;obtain ⟨hB,zB⟩:=u15.on hB kw
 refine wn (ac ?_);have hd:D.zbJ aD c0 c1 c2 a0=(aD c1 c0 (W (c2+1))):=(zaq h5).trans (rfl);have hs:=hr13.shape.cells;refine za5 r rfl rfl hb1 (k:=7) hs.1 zql ?_;rw [←hs.2.2,hd];exact rfin hF hB hr13 u15 kw kw kw
theorem zkM {n:Nat} {F:Nat→Prop} {aD:Plan→Int→Int→T Bool} {w0:World} (hF:∀ b,F b→b<w0.heap.size) (aS:∀ m,m<n→zey aD m)
    (a0:Plan) (a1:Int) (a2:Int) :
    Calls ar 380 #[aq (zpg a0),.int .i64 a1,.int .i64 a2] w0 (zpp ar zpH n (D.zbi aD a0 a1 a2) F w0):=by
 refine kN Tryz.func380 rfl 21 rfl rfl fun fr r hB=>?_;refine wsr ?_
 refine kX 23 (aq (zpg a0)) r rfl rfl fun b1 w2 n3 r=>?_;obtain ⟨eb1,zw2,hb1,hB,zB⟩:=n3.all hB
 refine kX 3 (I a1) r rfl rfl fun b4 w5 n6 r=>?_;have hb1:=keep n6.below hb1
 obtain ⟨eb4,zw5,hb4,hB,zB⟩:=n6.all hB;refine kX 3 (I a2) r rfl rfl fun b7 w8 n9 r=>?_;have hb1:=keep n9.below hb1
 have hb4:=keep n9.below hb4;obtain ⟨eb7,zw8,hb7,hB,zB⟩:=n9.all hB;refine za7 (.cells (kq zpH) 318 (0,0)) r (fun R=>za6 zqx) rfl fun fr b10 w11 n12 r=>?_;have hb1:=keep n12.below hb1
 have hb4:=keep n12.below hb4;have hb7:=keep n12.below hb7;obtain ⟨eb10,zw11,hb10,hB,zB⟩:=n12.all hB;refine wn (aa (wsr (kL (I a2) r rfl hb7 to3 rfl rfl fun r=>kF 0 r rfl zkw rfl fun r=>kL (I a0.threads) r rfl hb1 to3 rfl rfl fun r=>kB r rfl rfl rfl rfl rfl fun r=>kB r rfl rfl rfl rfl rfl fun r=>wn ?_)));refine ae (t:=(a2==(W (a0.threads * 3)))) (r.ev rfl) (fun h13=>?_) (fun h13=>?_)
 ·
  refine wsr ?_;have hF1:=zpz hF hB b10;refine kD r (zgk (F:=(kW F w0 w11 b10)) (n:=n) hF1 false) rfl zrK rfl fun w14 v15 hb hr16 r=>?_;have zw14:=hb.size
  have hb1:=keep hb hb1;have hb4:=keep hb hb4;have hb7:=keep hb hb7;have hb10:=keep hb hb10;obtain ⟨hB,zB⟩:=bon hb hB;refine kP r hr16.shape rfl rfl hb10 zqm rfl rfl fun w17 u18 r=>?_;have zw17:=u18.size
  have hb1:=u18.keep hb1 kw
  have hb4:=u18.keep hb4 kw
  have hb7:=u18.keep hb7 kw
  have hb10:=u18.at_;obtain ⟨hB,zB⟩:=u18.on hB kw
  refine wn (ac ?_);have hd:D.zbi aD a0 a1 a2=(D.zdn false):=(zao h13).trans (rfl);have hs:=hr16.shape.cells;refine za5 r rfl rfl hb10 (k:=7) hs.1 zql ?_;rw [←hs.2.2,hd];exact rfin hF hB hr16 u18 kw kw kw
 refine ag (wsr (kG (zpg a0) 6 r rfl hb1 ta23 rfl rfl fun r=>kL (I a2) r rfl hb7 to3 rfl rfl fun r=>kB r rfl rfl rfl rfl rfl fun r=>kL (I a2) r rfl hb7 to3 rfl rfl fun r=>kB r rfl rfl rfl rfl rfl fun r=>?_));refine kE r (zfk w11 a0 (W (a2.tdiv 3)) (a2.tmod 3)) rfl zsI rfl fun w19 hb r=>?_
 have zw19:=hb.size;have hb1:=keep hb hb1;have hb4:=keep hb hb4;have hb7:=keep hb hb7;have hb10:=keep hb hb10;obtain ⟨hB,zB⟩:=bon hb hB;refine za0 (.func (.func 397) #[] #[zp b4,zp b1,zp b7]) r (fun R=>zaf r rfl) rfl fun fr r=>?_;have hF1:=zpz hF hB b10
 have f20:((kW F w0 w19 b10)) b4:=(.inr ⟨kw,kw,kw⟩)
 have f21:((kW F w0 w19 b10)) b1:=(.inr ⟨kw,kw,kw⟩)
 have f22:((kW F w0 w19 b10)) b7:=(.inr ⟨kw,kw,kw⟩)
 refine kD r (zjd (F:=(kW F w0 w19 b10)) (n:=n) hF1 (D.zbr a0 (W (a2.tdiv 3)) (a2.tmod 3)) ⟨397,[],[zp b4,zp b1,zp b7],ztf,rfl,fun m hm x w' hs hz=>zjG (fun b hb=>ai (hF1 b hb) hz) (fun m' hm'=>aS m' kw) a1 f20 (hs.at_ f20 hb4) a0 f21 (hs.at_ f21 hb1) a2 f22 (hs.at_ f22 hb7) x⟩) rfl ztL rfl fun w23 v24 hb hr25 r=>?_;have zw23:=hb.size
 have hb1:=keep hb hb1;have hb4:=keep hb hb4;have hb7:=keep hb hb7;have hb10:=keep hb hb10;obtain ⟨hB,zB⟩:=bon hb hB;refine kP r hr25.shape rfl rfl hb10 zqm rfl rfl fun w26 u27 r=>?_;have zw26:=u27.size
 have hb1:=u27.keep hb1 kw
 have hb4:=u27.keep hb4 kw
 have hb7:=u27.keep hb7 kw
 have hb10:=u27.at_;obtain ⟨hB,zB⟩:=u27.on hB kw
 refine wn (ac ?_);have hd:D.zbi aD a0 a1 a2=(D.zfp (D.zbr a0 (W (a2.tdiv 3)) (a2.tmod 3)) (fun x=>(D.zbJ aD a1 a0 a2 x))):=(zaq h13).trans (rfl)
 have hs:=hr25.shape.cells;refine za5 r rfl rfl hb10 (k:=7) hs.1 zql ?_;rw [←hs.2.2,hd];exact rfin hF hB hr25 u27 kw kw kw
theorem zkH {n:Nat} {k:Nat} (hk:n<k):zey (D.zbF k) n:=by
 induction n using Nat.strongRecOn generalizing k with
 | _ n ih=>
  obtain ⟨k,rfl⟩:∃ q,k=q+1:=⟨k - 1,kw⟩
  intro F w0 hF;have h:=@zkM n F (D.zbF k) w0 hF (fun m hm=>ih m hm kw)
  exact h
def D.zg6 (j:Nat) (a0:Plan) (a1:Int):T Bool:=(D.zbF j a0 a1 0)
theorem zl6 (hF:kH F w0) (hj:n<j)
    (a0:Plan) (a1:Int) :
    Calls ar 349 #[aq (zpg a0),.int .i64 a1] w0 (zpp ar zpH n (D.zg6 j a0 a1) F w0):=by
 refine kN Tryz.func349 rfl 8 rfl rfl fun fr r hB=>?_;refine wsr ?_
 refine kX 23 (aq (zpg a0)) r rfl rfl fun b1 w2 n3 r=>?_;obtain ⟨eb1,zw2,hb1,hB,zB⟩:=n3.all hB
 refine za7 (.cells (kq zpH) 318 (0,0)) r (fun R=>za6 zqx) rfl fun fr b4 w5 n6 r=>?_;have hb1:=keep n6.below hb1
 obtain ⟨eb4,zw5,hb4,hB,zB⟩:=n6.all hB;refine wn (wsr (kG (zpg a0) 6 r rfl hb1 ta23 rfl rfl fun r=>kM (I a1) r rfl rfl fun r=>?_));have hF1:=zpz hF hB b4
 refine kD r ((zkH (k:=j) (n:=n) kw) (kW F w0 w5 b4) _ hF1 a0 a1 0) rfl zsc rfl fun w7 v8 hb hr9 r=>?_;have zw7:=hb.size
 have hb1:=keep hb hb1;have hb4:=keep hb hb4;obtain ⟨hB,zB⟩:=bon hb hB;refine kP r hr9.shape rfl rfl hb4 zqm rfl rfl fun w10 u11 r=>?_;have zw10:=u11.size
 have hb1:=u11.keep hb1 kw
 have hb4:=u11.at_;obtain ⟨hB,zB⟩:=u11.on hB kw
 exact wn (ac (kR r hr9 rfl rfl hb4 rfl zql hF hB u11 kw kw kw))
def D.zcx (a0:Plan) (a1:Int) (a2:Int) (a3:Int):T Unit:=(D.zij (D.zbr a0 a1 a2) (D.zdv a3))
theorem zgV (hF:kH F w0)
    (a0:Plan) (a1:Int) (a2:Int) (a3:Int) :
    Calls ar 229 #[aq (zpg a0),.int .i64 a1,.int .i64 a2,.int .i64 a3] w0 (zpp ar zpk n (D.zcx a0 a1 a2 a3) F w0):=by
 refine kN Tryz.func229 rfl 16 rfl rfl fun fr r hB=>?_;refine wsr ?_
 refine kX 23 (aq (zpg a0)) r rfl rfl fun b1 w2 n3 r=>?_;obtain ⟨eb1,zw2,hb1,hB,zB⟩:=n3.all hB
 refine za7 (.cells (kq zpk) 133 (0,0)) r (fun R=>za6 zq4) rfl fun fr b4 w5 n6 r=>?_;have hb1:=keep n6.below hb1
 obtain ⟨eb4,zw5,hb4,hB,zB⟩:=n6.all hB;refine wn (wsr (kG (zpg a0) 6 r rfl hb1 ta23 rfl rfl fun r=>kM (I a1) r rfl rfl fun r=>kM (I a2) r rfl rfl fun r=>?_));refine kE r (zfk w5 a0 a1 a2) rfl zsI rfl fun w7 hb r=>?_
 have zw7:=hb.size;have hb1:=keep hb hb1;have hb4:=keep hb hb4;obtain ⟨hB,zB⟩:=bon hb hB;refine kM (I a3) r rfl rfl fun r=>?_;refine kE r (zie w7 a3) rfl zsC rfl fun w8 hb r=>?_
 have zw8:=hb.size;have hb1:=keep hb hb1;have hb4:=keep hb hb4;obtain ⟨hB,zB⟩:=bon hb hB;have hF1:=zpz hF hB b4;refine kD r (zku (F:=(kW F w0 w8 b4)) (n:=n) hF1 (D.zbr a0 a1 a2) (D.zdv a3)) rfl zrL rfl fun w9 v10 hb hr11 r=>?_;have zw9:=hb.size
 have hb1:=keep hb hb1;have hb4:=keep hb hb4;obtain ⟨hB,zB⟩:=bon hb hB;refine kP r hr11.shape rfl rfl hb4 zq1 rfl rfl fun w12 u13 r=>?_;have zw12:=u13.size
 have hb1:=u13.keep hb1 kw
 have hb4:=u13.at_;obtain ⟨hB,zB⟩:=u13.on hB kw
 exact wn (ac (kR r hr11 rfl rfl hb4 rfl zq0 hF hB u13 kw kw kw))
def D.zcw (ay:Plan→Int→Int→Int→Int→Int→T Int) (c0:Int) (c1:Plan) (c2:Int) (c3:Int) (c4:Int) (c5:Int) (a0:Int):T Int:=(bif (a0==c0) then (D.zcv c0) else (ay c1 c2 c3 c4 c5 a0))
def D.zep (ay:Plan→Int→Int→Int→Int→Int→T Int) (c0:Int) (c1:Int) (c2:Plan) (c3:Int) (c4:Int) (c5:Int):T Int:=(D.zdu c0 (fun x=>(D.zcw ay c1 c2 c3 c4 c0 c5 x)))
def D.zbH (ay:Plan→Int→Int→Int→Int→Int→T Int) (a0:Plan) (a1:Int) (a2:Int) (a3:Int) (a4:Int) (a5:Int):T Int:=(bif (decide ((IntKind.i64.wrap ((IntKind.i64.wrap (shrI .u64 a5 a4)) - 1))<0)) then (D.zcv a5) else (T.bind (D.zcx a0 a1 a2 (IntKind.i64.wrap ((IntKind.i64.wrap (shrI .u64 a5 a4)) - 1))) (fun _=>(D.zep ay a3 a5 a0 a1 a2 a4))))
def D.zc3:Nat→Plan→Int→Int→Int→Int→Int→T Int
 | 0,_,_,_,_,_,_=>.cut
 | k+1,a0,a1,a2,a3,a4,a5=>D.zbH (D.zc3 k) a0 a1 a2 a3 a4 a5
def zd9 (r:Plan→Int→Int→Int→Int→Int→T Int) (n:Nat):Prop:=∀ (F:Nat→Prop) (w0:World),(∀ b,F b→b<w0.heap.size)→∀ (a0:Plan) (a1:Int) (a2:Int) (a3:Int) (a4:Int) (a5:Int) (_:0≤a4),Calls ar 315 #[aq (zpg a0),.int .i64 a1,.int .i64 a2,.int .i64 a3,.int .i64 a4,.int .u64 a5] w0 (zpp ar zpy n (r a0 a1 a2 a3 a4 a5) F w0)
theorem zi3 {ay:Plan→Int→Int→Int→Int→Int→T Int} (hF:kH F w0) (aL:∀ m,m≤n→zd9 ay m)
    (c0:Int) {c0b:Nat} (c0F:F c0b) (c0h:w0.heap[c0b]?=some (.cells ([(.int .u64 c0)]).toArray 34 (0,0))) (c1:Plan) {c1b:Nat} (c1F:F c1b) (c1h:w0.heap[c1b]?=some (.cells ((zpg c1)).toArray 23 (0,0))) (c2:Int) {c2b:Nat} (c2F:F c2b) (c2h:w0.heap[c2b]?=some (.cells ([(.int .i64 c2)]).toArray 3 (0,0))) (c3:Int) {c3b:Nat} (c3F:F c3b) (c3h:w0.heap[c3b]?=some (.cells ([(.int .i64 c3)]).toArray 3 (0,0))) (c4:Int) {c4b:Nat} (c4F:F c4b) (c4h:w0.heap[c4b]?=some (.cells ([(.int .i64 c4)]).toArray 3 (0,0))) (c5:Int) {c5b:Nat} (c5F:F c5b) (c5h:w0.heap[c5b]?=some (.cells ([(.int .i64 c5)]).toArray 3 (0,0))) (a0:Int) (pre0:0≤c5) :
    Calls ar 362 #[.int .u64 a0,zp c0b,zp c1b,zp c2b,zp c3b,zp c4b,zp c5b] w0 (zpp ar zpy n (D.zcw ay c0 c1 c2 c3 c4 c5 a0) F w0):=by
 refine kN Tryz.func362 rfl 21 rfl rfl fun fr r hB=>?_;have lc0b:=ah c0h
 have lc1b:=ah c1h;have lc2b:=ah c2h;have lc3b:=ah c3h;have lc4b:=ah c4h;have lc5b:=ah c5h;refine wsr ?_;refine za7 (.cells (kq zpy) 271 (0,0)) r (fun R=>za6 zqe) rfl fun fr b1 w2 n3 r=>?_;obtain ⟨eb1,zw2,hb1,hB,zB⟩:=n3.all hB
 refine wn (aa (wsr (kM (U a0) r rfl rfl fun r=>kL (U c0) r rfl (keep hB c0h) to34 rfl rfl fun r=>kB r rfl rfl rfl rfl rfl fun r=>wn ?_)));refine ae (t:=(a0==c0)) (r.ev rfl) (fun h4=>?_) (fun h4=>?_)
 ·
  refine wsr (kL (U c0) r rfl (keep hB c0h) to34 rfl rfl fun r=>?_);have hF1:=zpz hF hB b1
  refine kD r (zfl (F:=(kW F w0 w2 b1)) (n:=n) hF1 c0) rfl zsw rfl fun w5 v6 hb hr7 r=>?_;have zw5:=hb.size
  have hb1:=keep hb hb1;obtain ⟨hB,zB⟩:=bon hb hB;refine kP r hr7.shape rfl rfl hb1 zqc rfl rfl fun w8 u9 r=>?_;have zw8:=u9.size
  have hb1:=u9.at_;obtain ⟨hB,zB⟩:=u9.on hB kw
  refine wn (ac ?_);have hd:D.zcw ay c0 c1 c2 c3 c4 c5 a0=(D.zcv c0):=(zao h4).trans (rfl);have hs:=hr7.shape.cells;refine za5 r rfl rfl hb1 (k:=7) hs.1 zqa ?_;rw [←hs.2.2,hd];exact rfin hF hB hr7 u9 kw kw kw
 refine ag (wsr (kG (zpg c1) 6 r rfl (keep hB c1h) ta23 rfl rfl fun r=>kL (I c2) r rfl (keep hB c2h) to3 rfl rfl fun r=>kL (I c3) r rfl (keep hB c3h) to3 rfl rfl fun r=>kL (I c4) r rfl (keep hB c4h) to3 rfl rfl fun r=>kL (I c5) r rfl (keep hB c5h) to3 rfl rfl fun r=>kM (U a0) r rfl rfl fun r=>?_));have hF1:=zpz hF hB b1
 refine kD r ((aL n kw) (kW F w0 w2 b1) _ hF1 c1 c2 c3 c4 c5 a0 yau) rfl zrU rfl fun w10 v11 hb hr12 r=>?_;have zw10:=hb.size
 have hb1:=keep hb hb1;obtain ⟨hB,zB⟩:=bon hb hB;refine kP r hr12.shape rfl rfl hb1 zqc rfl rfl fun w13 u14 r=>?_;have zw13:=u14.size
 have hb1:=u14.at_;obtain ⟨hB,zB⟩:=u14.on hB kw
 refine wn (ac ?_);have hd:D.zcw ay c0 c1 c2 c3 c4 c5 a0=(ay c1 c2 c3 c4 c5 a0):=(zaq h4).trans (rfl);have hs:=hr12.shape.cells;refine za5 r rfl rfl hb1 (k:=7) hs.1 zqa ?_;rw [←hs.2.2,hd];exact rfin hF hB hr12 u14 kw kw kw
theorem zjc {ay:Plan→Int→Int→Int→Int→Int→T Int} (hF:kH F w0) (aL:∀ m,m<n→zd9 ay m)
    (c0:Int) {c0b:Nat} (c0F:F c0b) (c0h:w0.heap[c0b]?=some (.cells ([(.int .i64 c0)]).toArray 3 (0,0))) (c1:Int) {c1b:Nat} (c1F:F c1b) (c1h:w0.heap[c1b]?=some (.cells ([(.int .u64 c1)]).toArray 34 (0,0))) (c2:Plan) {c2b:Nat} (c2F:F c2b) (c2h:w0.heap[c2b]?=some (.cells ((zpg c2)).toArray 23 (0,0))) (c3:Int) {c3b:Nat} (c3F:F c3b) (c3h:w0.heap[c3b]?=some (.cells ([(.int .i64 c3)]).toArray 3 (0,0))) (c4:Int) {c4b:Nat} (c4F:F c4b) (c4h:w0.heap[c4b]?=some (.cells ([(.int .i64 c4)]).toArray 3 (0,0))) (c5:Int) {c5b:Nat} (c5F:F c5b) (c5h:w0.heap[c5b]?=some (.cells ([(.int .i64 c5)]).toArray 3 (0,0))) (pre0:0≤c5) :
    Calls ar 361 #[.agg #[],zp c0b,zp c1b,zp c2b,zp c3b,zp c4b,zp c5b] w0 (zpp ar zpy n (D.zep ay c0 c1 c2 c3 c4 c5) F w0):=by
 refine kN Tryz.func361 rfl 12 rfl rfl fun fr r hB=>?_;have lc0b:=ah c0h
 have lc1b:=ah c1h;have lc2b:=ah c2h;have lc3b:=ah c3h;have lc4b:=ah c4h;have lc5b:=ah c5h;refine wsr ?_;refine kX 128 (.agg #[]) r rfl rfl fun b1 w2 n3 r=>?_;obtain ⟨eb1,zw2,hb1,hB,zB⟩:=n3.all hB
 refine za7 (.cells (kq zpy) 271 (0,0)) r (fun R=>za6 zqe) rfl fun fr b4 w5 n6 r=>?_;have hb1:=keep n6.below hb1
 obtain ⟨eb4,zw5,hb4,hB,zB⟩:=n6.all hB;refine wn (wsr (kL (I c0) r rfl (keep hB c0h) to3 rfl rfl fun r=>za0 (.func (.func 362) #[] #[zp c1b,zp c2b,zp c3b,zp c4b,zp c0b,zp c5b]) r (fun R=>zaf r rfl) rfl fun fr r=>?_));have hF1:=zpz hF hB b4
 have f7:((kW F w0 w5 b4)) c1b:=(.inl c1F);have f8:((kW F w0 w5 b4)) c2b:=(.inl c2F);have f9:((kW F w0 w5 b4)) c3b:=(.inl c3F);have f10:((kW F w0 w5 b4)) c4b:=(.inl c4F);have f11:((kW F w0 w5 b4)) c0b:=(.inl c0F);have f12:((kW F w0 w5 b4)) c5b:=(.inl c5F);refine kD r (zfj (F:=(kW F w0 w5 b4)) (n:=n) hF1 c0 ⟨362,[],[zp c1b,zp c2b,zp c3b,zp c4b,zp c0b,zp c5b],ztg,rfl,fun m hm x w' hs hz=>zi3 (fun b hb=>ai (hF1 b hb) hz) (fun m' hm'=>aL m' kw) c1 f7 (hs.at_ f7 (keep hB c1h)) c2 f8 (hs.at_ f8 (keep hB c2h)) c3 f9 (hs.at_ f9 (keep hB c3h)) c4 f10 (hs.at_ f10 (keep hB c4h)) c0 f11 (hs.at_ f11 (keep hB c0h)) c5 f12 (hs.at_ f12 (keep hB c5h)) x yau⟩) rfl zrI rfl fun w13 v14 hb hr15 r=>?_;have zw13:=hb.size
 have hb1:=keep hb hb1;have hb4:=keep hb hb4;obtain ⟨hB,zB⟩:=bon hb hB;refine kP r hr15.shape rfl rfl hb4 zqc rfl rfl fun w16 u17 r=>?_;have zw16:=u17.size
 have hb1:=u17.keep hb1 kw
 have hb4:=u17.at_;obtain ⟨hB,zB⟩:=u17.on hB kw
 exact wn (ac (kR r hr15 rfl rfl hb4 rfl zqa hF hB u17 kw kw kw))
theorem zka {n:Nat} {F:Nat→Prop} {ay:Plan→Int→Int→Int→Int→Int→T Int} {w0:World} (hF:∀ b,F b→b<w0.heap.size) (aL:∀ m,m<n→zd9 ay m)
    (a0:Plan) (a1:Int) (a2:Int) (a3:Int) (a4:Int) (a5:Int) (pre0:0≤a4) :
    Calls ar 315 #[aq (zpg a0),.int .i64 a1,.int .i64 a2,.int .i64 a3,.int .i64 a4,.int .u64 a5] w0 (zpp ar zpy n (D.zbH ay a0 a1 a2 a3 a4 a5) F w0):=by
 refine kN Tryz.func315 rfl 30 rfl rfl fun fr r hB=>?_;refine wsr ?_
 refine kX 23 (aq (zpg a0)) r rfl rfl fun b1 w2 n3 r=>?_;obtain ⟨eb1,zw2,hb1,hB,zB⟩:=n3.all hB
 refine kX 3 (I a1) r rfl rfl fun b4 w5 n6 r=>?_;have hb1:=keep n6.below hb1
 obtain ⟨eb4,zw5,hb4,hB,zB⟩:=n6.all hB;refine kX 3 (I a2) r rfl rfl fun b7 w8 n9 r=>?_;have hb1:=keep n9.below hb1
 have hb4:=keep n9.below hb4;obtain ⟨eb7,zw8,hb7,hB,zB⟩:=n9.all hB;refine kX 3 (I a3) r rfl rfl fun b10 w11 n12 r=>?_;have hb1:=keep n12.below hb1
 have hb4:=keep n12.below hb4;have hb7:=keep n12.below hb7;obtain ⟨eb10,zw11,hb10,hB,zB⟩:=n12.all hB;refine kX 3 (I a4) r rfl rfl fun b13 w14 n15 r=>?_;have hb1:=keep n15.below hb1
 have hb4:=keep n15.below hb4;have hb7:=keep n15.below hb7;have hb10:=keep n15.below hb10;obtain ⟨eb13,zw14,hb13,hB,zB⟩:=n15.all hB;refine kX 34 (U a5) r rfl rfl fun b16 w17 n18 r=>?_;have hb1:=keep n18.below hb1
 have hb4:=keep n18.below hb4;have hb7:=keep n18.below hb7;have hb10:=keep n18.below hb10;have hb13:=keep n18.below hb13;obtain ⟨eb16,zw17,hb16,hB,zB⟩:=n18.all hB;refine za7 (.cells (kq zpy) 271 (0,0)) r (fun R=>za6 zqe) rfl fun fr b19 w20 n21 r=>?_;have hb1:=keep n21.below hb1
 have hb4:=keep n21.below hb4;have hb7:=keep n21.below hb7;have hb10:=keep n21.below hb10;have hb13:=keep n21.below hb13;have hb16:=keep n21.below hb16;obtain ⟨eb19,zw20,hb19,hB,zB⟩:=n21.all hB;refine wn (wsr (kL (U a5) r rfl hb16 to34 rfl rfl fun r=>kL (I a4) r rfl hb13 to3 rfl rfl fun r=>kB r rfl rfl rfl (zlS yau) rfl fun r=>za0 (I (W (shrI .u64 a5 a4))) r (fun R=>zb9 r rfl ti34 ti3) rfl fun fr r=>kB r rfl rfl rfl rfl rfl fun r=>kA (I (W ((W (shrI .u64 a5 a4)) - 1))) r rfl rfl fun r=>wn (aa (wsr (kM (I (W ((W (shrI .u64 a5 a4)) - 1))) r rfl rfl fun r=>kB r rfl rfl rfl rfl rfl fun r=>wn ?_)))));refine ae (t:=(decide ((W ((W (shrI .u64 a5 a4)) - 1))<0))) (r.ev rfl) (fun h22=>?_) (fun h22=>?_)
 ·
  refine wsr (kL (U a5) r rfl hb16 to34 rfl rfl fun r=>?_);have hF1:=zpz hF hB b19
  refine kD r (zfl (F:=(kW F w0 w20 b19)) (n:=n) hF1 a5) rfl zsw rfl fun w23 v24 hb hr25 r=>?_;have zw23:=hb.size
  have hb1:=keep hb hb1;have hb4:=keep hb hb4;have hb7:=keep hb hb7;have hb10:=keep hb hb10;have hb13:=keep hb hb13;have hb16:=keep hb hb16;have hb19:=keep hb hb19;obtain ⟨hB,zB⟩:=bon hb hB;refine kP r hr25.shape rfl rfl hb19 zqc rfl rfl fun w26 u27 r=>?_;have zw26:=u27.size
  have hb1:=u27.keep hb1 kw
  have hb4:=u27.keep hb4 kw
  have hb7:=u27.keep hb7 kw
  have hb10:=u27.keep hb10 kw
  have hb13:=u27.keep hb13 kw
  have hb16:=u27.keep hb16 kw
  have hb19:=u27.at_;obtain ⟨hB,zB⟩:=u27.on hB kw
  refine wn (ac ?_);have hd:D.zbH ay a0 a1 a2 a3 a4 a5=(D.zcv a5):=(zao h22).trans (rfl);have hs:=hr25.shape.cells;refine za5 r rfl rfl hb19 (k:=7) hs.1 zqa ?_;rw [←hs.2.2,hd];exact rfin hF hB hr25 u27 kw kw kw
 refine ag (wsr (kG (zpg a0) 6 r rfl hb1 ta23 rfl rfl fun r=>kL (I a1) r rfl hb4 to3 rfl rfl fun r=>kL (I a2) r rfl hb7 to3 rfl rfl fun r=>kM (I (W ((W (shrI .u64 a5 a4)) - 1))) r rfl rfl fun r=>?_));have hF1:=zpz hF hB b19
 refine kD r (zgV (F:=(kW F w0 w20 b19)) (n:=n) hF1 a0 a1 a2 (W ((W (shrI .u64 a5 a4)) - 1))) rfl zrx rfl fun w28 v29 hb hr30 r=>?_;have zw28:=hb.size
 have hb1:=keep hb hb1;have hb4:=keep hb hb4;have hb7:=keep hb hb7;have hb10:=keep hb hb10;have hb13:=keep hb hb13;have hb16:=keep hb hb16;have hb19:=keep hb hb19;obtain ⟨hB,zB⟩:=bon hb hB;refine za0 (.func (.func 361) #[] #[zp b10,zp b16,zp b1,zp b4,zp b7,zp b13]) r (fun R=>zaf r rfl) rfl fun fr r=>?_;have hF1:=zpz hF hB b19
 have f31:((kW F w0 w28 b19)) b10:=(.inr ⟨kw,kw,kw⟩)
 have f32:((kW F w0 w28 b19)) b16:=(.inr ⟨kw,kw,kw⟩)
 have f33:((kW F w0 w28 b19)) b1:=(.inr ⟨kw,kw,kw⟩)
 have f34:((kW F w0 w28 b19)) b4:=(.inr ⟨kw,kw,kw⟩)
 have f35:((kW F w0 w28 b19)) b7:=(.inr ⟨kw,kw,kw⟩)
 have f36:((kW F w0 w28 b19)) b13:=(.inr ⟨kw,kw,kw⟩)
 refine kD r (zf9 (F:=(kW F w0 w28 b19)) (n:=n) hF1 (Rep.mono yae (Same.refl _ _) kw n _ _ hr30) ⟨361,[],[zp b10,zp b16,zp b1,zp b4,zp b7,zp b13],zuF,rfl,fun m hm _ w' hs hz=>zjc (fun b hb=>ai (hF1 b hb) hz) (fun m' hm'=>aL m' kw) a3 f31 (hs.at_ f31 hb10) a5 f32 (hs.at_ f32 hb16) a0 f33 (hs.at_ f33 hb1) a1 f34 (hs.at_ f34 hb4) a2 f35 (hs.at_ f35 hb7) a4 f36 (hs.at_ f36 hb13) yau⟩) rfl zrG rfl fun w37 v38 hb hr39 r=>?_
 have zw37:=hb.size;have hb1:=keep hb hb1;have hb4:=keep hb hb4;have hb7:=keep hb hb7;have hb10:=keep hb hb10;have hb13:=keep hb hb13;have hb16:=keep hb hb16;have hb19:=keep hb hb19;obtain ⟨hB,zB⟩:=bon hb hB;refine kP r hr39.shape rfl rfl hb19 zqc rfl rfl fun w40 u41 r=>?_;have zw40:=u41.size
 have hb1:=u41.keep hb1 kw
 have hb4:=u41.keep hb4 kw
 have hb7:=u41.keep hb7 kw
 have hb10:=u41.keep hb10 kw
 have hb13:=u41.keep hb13 kw
 have hb16:=u41.keep hb16 kw
 have hb19:=u41.at_;obtain ⟨hB,zB⟩:=u41.on hB kw
 refine wn (ac ?_);have hd:D.zbH ay a0 a1 a2 a3 a4 a5=(T.bind (D.zcx a0 a1 a2 (W ((W (shrI .u64 a5 a4)) - 1))) (fun _=>(D.zep ay a3 a5 a0 a1 a2 a4))):=(zaq h22).trans (rfl)
 have hs:=hr39.shape.cells;refine za5 r rfl rfl hb19 (k:=7) hs.1 zqa ?_;rw [←hs.2.2,hd];exact rfin hF hB hr39 u41 kw kw kw
theorem zkg {n:Nat} {k:Nat} (hk:n<k):zd9 (D.zc3 k) n:=by
 induction n using Nat.strongRecOn generalizing k with
 | _ n ih=>
  obtain ⟨k,rfl⟩:∃ q,k=q+1:=⟨k - 1,kw⟩
  intro F w0 hF;have h:=@zka n F (D.zc3 k) w0 hF (fun m hm=>ih m hm kw)
  exact h
def D.zeo (j:Nat) (c0:Plan) (c1:Int) (c2:Int) (c3:Int) (c4:Int) (a0:Int):T Int:=(D.zc3 j c0 c1 c2 c3 c4 a0)
theorem zj5 (hF:kH F w0) (hj:n<j)
    (c0:Plan) {c0b:Nat} (c0F:F c0b) (c0h:w0.heap[c0b]?=some (.cells ((zpg c0)).toArray 23 (0,0))) (c1:Int) {c1b:Nat} (c1F:F c1b) (c1h:w0.heap[c1b]?=some (.cells ([(.int .i64 c1)]).toArray 3 (0,0))) (c2:Int) {c2b:Nat} (c2F:F c2b) (c2h:w0.heap[c2b]?=some (.cells ([(.int .i64 c2)]).toArray 3 (0,0))) (c3:Int) {c3b:Nat} (c3F:F c3b) (c3h:w0.heap[c3b]?=some (.cells ([(.int .i64 c3)]).toArray 3 (0,0))) (c4:Int) {c4b:Nat} (c4F:F c4b) (c4h:w0.heap[c4b]?=some (.cells ([(.int .i64 c4)]).toArray 3 (0,0))) (a0:Int) (pre0:0≤c4) :
    Calls ar 314 #[.int .u64 a0,zp c0b,zp c1b,zp c2b,zp c3b,zp c4b] w0 (zpp ar zpy n (D.zeo j c0 c1 c2 c3 c4 a0) F w0):=by
 refine kN Tryz.func314 rfl 15 rfl rfl fun fr r hB=>?_;have lc0b:=ah c0h
 have lc1b:=ah c1h;have lc2b:=ah c2h;have lc3b:=ah c3h;have lc4b:=ah c4h;refine wsr ?_;refine za7 (.cells (kq zpy) 271 (0,0)) r (fun R=>za6 zqe) rfl fun fr b1 w2 n3 r=>?_;obtain ⟨eb1,zw2,hb1,hB,zB⟩:=n3.all hB
 refine wn (wsr (kG (zpg c0) 6 r rfl (keep hB c0h) ta23 rfl rfl fun r=>kL (I c1) r rfl (keep hB c1h) to3 rfl rfl fun r=>kL (I c2) r rfl (keep hB c2h) to3 rfl rfl fun r=>kL (I c3) r rfl (keep hB c3h) to3 rfl rfl fun r=>kL (I c4) r rfl (keep hB c4h) to3 rfl rfl fun r=>kM (U a0) r rfl rfl fun r=>?_));have hF1:=zpz hF hB b1
 refine kD r ((zkg (k:=j) (n:=n) kw) (kW F w0 w2 b1) _ hF1 c0 c1 c2 c3 c4 a0 yau) rfl zrU rfl fun w4 v5 hb hr6 r=>?_;have zw4:=hb.size
 have hb1:=keep hb hb1;obtain ⟨hB,zB⟩:=bon hb hB;refine kP r hr6.shape rfl rfl hb1 zqc rfl rfl fun w7 u8 r=>?_;have zw7:=u8.size
 have hb1:=u8.at_;obtain ⟨hB,zB⟩:=u8.on hB kw
 exact wn (ac (kR r hr6 rfl rfl hb1 rfl zqa hF hB u8 kw kw kw))
def D.zev (j:Nat) (a0:Plan) (a1:Int) (a2:Int) (a3:Int) (a4:Int):T Int:=(D.zdu a3 (fun x=>(D.zeo j a0 a1 a2 a3 a4 x)))
theorem zk9 (hF:kH F w0) (hj:n<j)
    (a0:Plan) (a1:Int) (a2:Int) (a3:Int) (a4:Int) (pre0:0≤a4) :
    Calls ar 247 #[aq (zpg a0),.int .i64 a1,.int .i64 a2,.int .i64 a3,.int .i64 a4] w0 (zpp ar zpy n (D.zev j a0 a1 a2 a3 a4) F w0):=by
 refine kN Tryz.func247 rfl 14 rfl rfl fun fr r hB=>?_;refine wsr ?_
 refine kX 23 (aq (zpg a0)) r rfl rfl fun b1 w2 n3 r=>?_;obtain ⟨eb1,zw2,hb1,hB,zB⟩:=n3.all hB
 refine kX 3 (I a1) r rfl rfl fun b4 w5 n6 r=>?_;have hb1:=keep n6.below hb1
 obtain ⟨eb4,zw5,hb4,hB,zB⟩:=n6.all hB;refine kX 3 (I a2) r rfl rfl fun b7 w8 n9 r=>?_;have hb1:=keep n9.below hb1
 have hb4:=keep n9.below hb4;obtain ⟨eb7,zw8,hb7,hB,zB⟩:=n9.all hB;refine kX 3 (I a3) r rfl rfl fun b10 w11 n12 r=>?_;have hb1:=keep n12.below hb1
 have hb4:=keep n12.below hb4;have hb7:=keep n12.below hb7;obtain ⟨eb10,zw11,hb10,hB,zB⟩:=n12.all hB;refine kX 3 (I a4) r rfl rfl fun b13 w14 n15 r=>?_;have hb1:=keep n15.below hb1
 have hb4:=keep n15.below hb4;have hb7:=keep n15.below hb7;have hb10:=keep n15.below hb10;obtain ⟨eb13,zw14,hb13,hB,zB⟩:=n15.all hB;refine za7 (.cells (kq zpy) 271 (0,0)) r (fun R=>za6 zqe) rfl fun fr b16 w17 n18 r=>?_;have hb1:=keep n18.below hb1
 have hb4:=keep n18.below hb4;have hb7:=keep n18.below hb7;have hb10:=keep n18.below hb10;have hb13:=keep n18.below hb13;obtain ⟨eb16,zw17,hb16,hB,zB⟩:=n18.all hB;refine wn (wsr (kL (I a3) r rfl hb10 to3 rfl rfl fun r=>za0 (.func (.func 314) #[] #[zp b1,zp b4,zp b7,zp b10,zp b13]) r (fun R=>zaf r rfl) rfl fun fr r=>?_));have hF1:=zpz hF hB b16
 have f19:((kW F w0 w17 b16)) b1:=(.inr ⟨kw,kw,kw⟩)
 have f20:((kW F w0 w17 b16)) b4:=(.inr ⟨kw,kw,kw⟩)
 have f21:((kW F w0 w17 b16)) b7:=(.inr ⟨kw,kw,kw⟩)
 have f22:((kW F w0 w17 b16)) b10:=(.inr ⟨kw,kw,kw⟩)
 have f23:((kW F w0 w17 b16)) b13:=(.inr ⟨kw,kw,kw⟩)
 refine kD r (zfj (F:=(kW F w0 w17 b16)) (n:=n) hF1 a3 ⟨314,[],[zp b1,zp b4,zp b7,zp b10,zp b13],ztn,rfl,fun m hm x w' hs hz=>zj5 (j:=j) (fun b hb=>ai (hF1 b hb) hz) kw a0 f19 (hs.at_ f19 hb1) a1 f20 (hs.at_ f20 hb4) a2 f21 (hs.at_ f21 hb7) a3 f22 (hs.at_ f22 hb10) a4 f23 (hs.at_ f23 hb13) x yau⟩) rfl zrI rfl fun w24 v25 hb hr26 r=>?_;have zw24:=hb.size
 have hb1:=keep hb hb1;have hb4:=keep hb hb4;have hb7:=keep hb hb7;have hb10:=keep hb hb10;have hb13:=keep hb hb13;have hb16:=keep hb hb16;obtain ⟨hB,zB⟩:=bon hb hB;refine kP r hr26.shape rfl rfl hb16 zqc rfl rfl fun w27 u28 r=>?_;have zw27:=u28.size
 have hb1:=u28.keep hb1 kw
 have hb4:=u28.keep hb4 kw
 have hb7:=u28.keep hb7 kw
 have hb10:=u28.keep hb10 kw
 have hb13:=u28.keep hb13 kw
 have hb16:=u28.at_;obtain ⟨hB,zB⟩:=u28.on hB kw
 exact wn (ac (kR r hr26 rfl rfl hb16 rfl zqa hF hB u28 kw kw kw))
def D.zdh (aF:Plan→Int→Int→T Unit) (c0:Plan) (c1:Int) (c2:Int):T Unit:=(aF c0 c1 (IntKind.i64.wrap (c2+1)))
def D.zbx (aF:Plan→Int→Int→T Unit) (a0:Plan) (a1:Int) (a2:Int):T Unit:=(bif (a2==3) then D.zen else (T.bind (D.zcx a0 a1 a2 (-1)) (fun _=>(D.zdh aF a0 a1 a2))))
def D.zcq:Nat→Plan→Int→Int→T Unit
 | 0,_,_,_=>.cut
 | k+1,a0,a1,a2=>D.zbx (D.zcq k) a0 a1 a2
def zej (r:Plan→Int→Int→T Unit) (n:Nat):Prop:=∀ (F:Nat→Prop) (w0:World),(∀ b,F b→b<w0.heap.size)→∀ (a0:Plan) (a1:Int) (a2:Int),Calls ar 304 #[aq (zpg a0),.int .i64 a1,.int .i64 a2] w0 (zpp ar zpk n (r a0 a1 a2) F w0)
theorem zj7 {aF:Plan→Int→Int→T Unit} (hF:kH F w0) (aP:∀ m,m≤n→zej aF m)
    (c0:Plan) {c0b:Nat} (c0F:F c0b) (c0h:w0.heap[c0b]?=some (.cells ((zpg c0)).toArray 23 (0,0))) (c1:Int) {c1b:Nat} (c1F:F c1b) (c1h:w0.heap[c1b]?=some (.cells ([(.int .i64 c1)]).toArray 3 (0,0))) (c2:Int) {c2b:Nat} (c2F:F c2b) (c2h:w0.heap[c2b]?=some (.cells ([(.int .i64 c2)]).toArray 3 (0,0))) :
    Calls ar 353 #[.agg #[],zp c0b,zp c1b,zp c2b] w0 (zpp ar zpk n (D.zdh aF c0 c1 c2) F w0):=by
 refine kN Tryz.func353 rfl 11 rfl rfl fun fr r hB=>?_;have lc0b:=ah c0h
 have lc1b:=ah c1h;have lc2b:=ah c2h;refine wsr ?_;refine kX 128 (.agg #[]) r rfl rfl fun b1 w2 n3 r=>?_;obtain ⟨eb1,zw2,hb1,hB,zB⟩:=n3.all hB
 refine za7 (.cells (kq zpk) 133 (0,0)) r (fun R=>za6 zq4) rfl fun fr b4 w5 n6 r=>?_;have hb1:=keep n6.below hb1
 obtain ⟨eb4,zw5,hb4,hB,zB⟩:=n6.all hB;refine wn (wsr (kG (zpg c0) 6 r rfl (keep hB c0h) ta23 rfl rfl fun r=>kL (I c1) r rfl (keep hB c1h) to3 rfl rfl fun r=>kL (I c2) r rfl (keep hB c2h) to3 rfl rfl fun r=>kB r rfl rfl rfl rfl rfl fun r=>?_));have hF1:=zpz hF hB b4
 refine kD r ((aP n kw) (kW F w0 w5 b4) _ hF1 c0 c1 (W (c2+1))) rfl zsb rfl fun w7 v8 hb hr9 r=>?_;have zw7:=hb.size
 have hb1:=keep hb hb1;have hb4:=keep hb hb4;obtain ⟨hB,zB⟩:=bon hb hB;refine kP r hr9.shape rfl rfl hb4 zq1 rfl rfl fun w10 u11 r=>?_;have zw10:=u11.size
 have hb1:=u11.keep hb1 kw
 have hb4:=u11.at_;obtain ⟨hB,zB⟩:=u11.on hB kw
 exact wn (ac (kR r hr9 rfl rfl hb4 rfl zq0 hF hB u11 kw kw kw))
theorem zkc {n:Nat} {F:Nat→Prop} {aF:Plan→Int→Int→T Unit} {w0:World} (hF:∀ b,F b→b<w0.heap.size) (aP:∀ m,m<n→zej aF m)
    (a0:Plan) (a1:Int) (a2:Int) :
    Calls ar 304 #[aq (zpg a0),.int .i64 a1,.int .i64 a2] w0 (zpp ar zpk n (D.zbx aF a0 a1 a2) F w0):=by
 refine kN Tryz.func304 rfl 17 rfl rfl fun fr r hB=>?_;refine wsr ?_
 refine kX 23 (aq (zpg a0)) r rfl rfl fun b1 w2 n3 r=>?_;obtain ⟨eb1,zw2,hb1,hB,zB⟩:=n3.all hB
 refine kX 3 (I a1) r rfl rfl fun b4 w5 n6 r=>?_;have hb1:=keep n6.below hb1
 obtain ⟨eb4,zw5,hb4,hB,zB⟩:=n6.all hB;refine kX 3 (I a2) r rfl rfl fun b7 w8 n9 r=>?_;have hb1:=keep n9.below hb1
 have hb4:=keep n9.below hb4;obtain ⟨eb7,zw8,hb7,hB,zB⟩:=n9.all hB;refine za7 (.cells (kq zpk) 133 (0,0)) r (fun R=>za6 zq4) rfl fun fr b10 w11 n12 r=>?_;have hb1:=keep n12.below hb1
 have hb4:=keep n12.below hb4;have hb7:=keep n12.below hb7;obtain ⟨eb10,zw11,hb10,hB,zB⟩:=n12.all hB;refine wn (aa (wsr (kL (I a2) r rfl hb7 to3 rfl rfl fun r=>kB r rfl rfl rfl rfl rfl fun r=>wn ?_)));refine ae (t:=(a2==3)) (r.ev rfl) (fun h13=>?_) (fun h13=>?_)
 ·
  refine wsr (kU (.agg #[]) r kz rfl fun r=>?_);have hF1:=zpz hF hB b10
  refine kD r (zgg (F:=(kW F w0 w11 b10)) (n:=n) hF1 ) rfl zsu rfl fun w14 v15 hb hr16 r=>?_;have zw14:=hb.size
  have hb1:=keep hb hb1;have hb4:=keep hb hb4;have hb7:=keep hb hb7;have hb10:=keep hb hb10;obtain ⟨hB,zB⟩:=bon hb hB;refine kP r hr16.shape rfl rfl hb10 zq1 rfl rfl fun w17 u18 r=>?_;have zw17:=u18.size
  have hb1:=u18.keep hb1 kw
  have hb4:=u18.keep hb4 kw
  have hb7:=u18.keep hb7 kw
  have hb10:=u18.at_;obtain ⟨hB,zB⟩:=u18.on hB kw
  refine wn (ac ?_);have hd:D.zbx aF a0 a1 a2=D.zen:=(zao h13).trans (rfl);have hs:=hr16.shape.cells;refine za5 r rfl rfl hb10 (k:=6) hs.1 zq0 ?_;rw [←hs.2.2,hd];exact rfin hF hB hr16 u18 kw kw kw
 refine ag (wsr (kG (zpg a0) 6 r rfl hb1 ta23 rfl rfl fun r=>kL (I a1) r rfl hb4 to3 rfl rfl fun r=>kL (I a2) r rfl hb7 to3 rfl rfl fun r=>?_));have hF1:=zpz hF hB b10
 refine kD r (zgV (F:=(kW F w0 w11 b10)) (n:=n) hF1 a0 a1 a2 (-1)) rfl zrx rfl fun w19 v20 hb hr21 r=>?_;have zw19:=hb.size
 have hb1:=keep hb hb1;have hb4:=keep hb hb4;have hb7:=keep hb hb7;have hb10:=keep hb hb10;obtain ⟨hB,zB⟩:=bon hb hB;refine za0 (.func (.func 353) #[] #[zp b1,zp b4,zp b7]) r (fun R=>zaf r rfl) rfl fun fr r=>?_;have hF1:=zpz hF hB b10
 have f22:((kW F w0 w19 b10)) b1:=(.inr ⟨kw,kw,kw⟩)
 have f23:((kW F w0 w19 b10)) b4:=(.inr ⟨kw,kw,kw⟩)
 have f24:((kW F w0 w19 b10)) b7:=(.inr ⟨kw,kw,kw⟩)
 refine kD r (zfz (F:=(kW F w0 w19 b10)) (n:=n) hF1 (Rep.mono yae (Same.refl _ _) kw n _ _ hr21) ⟨353,[],[zp b1,zp b4,zp b7],zuj,rfl,fun m hm _ w' hs hz=>zj7 (fun b hb=>ai (hF1 b hb) hz) (fun m' hm'=>aP m' kw) a0 f22 (hs.at_ f22 hb1) a1 f23 (hs.at_ f23 hb4) a2 f24 (hs.at_ f24 hb7)⟩ rfl) rfl zsi rfl fun w25 v26 hb hr27 r=>?_
 have zw25:=hb.size;have hb1:=keep hb hb1;have hb4:=keep hb hb4;have hb7:=keep hb hb7;have hb10:=keep hb hb10;obtain ⟨hB,zB⟩:=bon hb hB;refine kP r hr27.shape rfl rfl hb10 zq1 rfl rfl fun w28 u29 r=>?_;have zw28:=u29.size
 have hb1:=u29.keep hb1 kw
 have hb4:=u29.keep hb4 kw
 have hb7:=u29.keep hb7 kw
 have hb10:=u29.at_;obtain ⟨hB,zB⟩:=u29.on hB kw
 refine wn (ac ?_);have hd:D.zbx aF a0 a1 a2=(T.bind (D.zcx a0 a1 a2 (-1)) (fun _=>(D.zdh aF a0 a1 a2))):=(zaq h13).trans (rfl)
 have hs:=hr27.shape.cells;refine za5 r rfl rfl hb10 (k:=6) hs.1 zq0 ?_;rw [←hs.2.2,hd];exact rfin hF hB hr27 u29 kw kw kw
theorem zkf {n:Nat} {k:Nat} (hk:n<k):zej (D.zcq k) n:=by
 induction n using Nat.strongRecOn generalizing k with
 | _ n ih=>
  obtain ⟨k,rfl⟩:∃ q,k=q+1:=⟨k - 1,kw⟩
  intro F w0 hF;have h:=@zkc n F (D.zcq k) w0 hF (fun m hm=>ih m hm kw)
  exact h
def D.zfb (j:Nat) (a0:Plan) (a1:Int):T Unit:=(D.zcq j a0 a1 0)
theorem zhw (hF:kH F w0) (hj:n<j)
    (a0:Plan) (a1:Int) :
    Calls ar 238 #[aq (zpg a0),.int .i64 a1] w0 (zpp ar zpk n (D.zfb j a0 a1) F w0):=by
 refine kN Tryz.func238 rfl 8 rfl rfl fun fr r hB=>?_;refine wsr ?_
 refine kX 23 (aq (zpg a0)) r rfl rfl fun b1 w2 n3 r=>?_;obtain ⟨eb1,zw2,hb1,hB,zB⟩:=n3.all hB
 refine za7 (.cells (kq zpk) 133 (0,0)) r (fun R=>za6 zq4) rfl fun fr b4 w5 n6 r=>?_;have hb1:=keep n6.below hb1
 obtain ⟨eb4,zw5,hb4,hB,zB⟩:=n6.all hB;refine wn (wsr (kG (zpg a0) 6 r rfl hb1 ta23 rfl rfl fun r=>kM (I a1) r rfl rfl fun r=>?_));have hF1:=zpz hF hB b4
 refine kD r ((zkf (k:=j) (n:=n) kw) (kW F w0 w5 b4) _ hF1 a0 a1 0) rfl zsb rfl fun w7 v8 hb hr9 r=>?_;have zw7:=hb.size
 have hb1:=keep hb hb1;have hb4:=keep hb hb4;obtain ⟨hB,zB⟩:=bon hb hB;refine kP r hr9.shape rfl rfl hb4 zq1 rfl rfl fun w10 u11 r=>?_;have zw10:=u11.size
 have hb1:=u11.keep hb1 kw
 have hb4:=u11.at_;obtain ⟨hB,zB⟩:=u11.on hB kw
 exact wn (ac (kR r hr9 rfl rfl hb4 rfl zq0 hF hB u11 kw kw kw))
end
theorem zt1:zpf ar 115:=kz
theorem cl19:zpf ar 19:=kz
theorem cl65:zpf ar 65:=kz
theorem zse:sized ar 128 0:=kz
theorem ts36:sized ar 36 2:=kz
theorem zsD:zeroOf ar 128=some (.agg #[]):=kz
theorem tz36:zeroOf ar 36=some (aq (resC (⟨0,0⟩:Res))):=kz
def D.zdA (fu:Nat) (a0:Nat × T Unit) (a1:Mem) (a2:Cap):Option ((Nat × T Unit) × Bool × Mem):=(bif a0.2.zpB then (some (a0,false,a1)) else ((D.zc2 fu a1 a2 (T.acc a0.2)).bind (fun (x16:Int × Bool × Mem)=>(bif (!x16.2.1) then (some (a0,false,x16.2.2)) else ((depthI a0.1).bind (fun (x26:Nat)=>(some ((x26,T.next a0.2 x16.1),true,x16.2.2))))))))
theorem zgP {fu:Nat} (w0:World) {a0v:Value} {a0F:List Nat} (a0:Nat × T Unit) {a1g:MG} (a1:Mem) (a2:Cap) (hS:Sep [zpS ar zpk a0 a0v a0F,memK a1g a1] w0) {res:(Nat × T Unit) × Bool × Mem} (hD:D.zdA fu a0 a1 a2=some res) :
    Calls ar 115 #[a0v,zp a1g.mb,aq (capC a2)] w0 (fun e w'=>∃ (v0:Value) (F0:List Nat),e=.returned (.tuple #[v0,(.bool res.2.1)])∧Done (fun b=>b∈(memK a1g a1).own) (fun b=>b∈a0F) [memK a1g res.2.2,zpS ar zpk res.1 v0 F0] w0 w'):=by
 refine enter Tryz.func115 rfl 28 rfl rfl fun fr r=>?_;have hP:Post (fun b=>b∈(memK a1g a1).own) [zpS ar zpk a0 a0v a0F,memK a1g a1] w0 w0:=.start hS (by simp [memK,zpS])
 unfold D.zdA at hD
 refine wsr ?_;refine kX 133 a0v r rfl rfl fun b1 w2 n3 r=>?_;have hP:Post (fun b=>b∈(memK a1g a1).own) [zpS ar zpk a0 a0v a0F,memK a1g a1,zpi b1 a0v.cells 133] w0 w2:=hP.new n3
 refine kX 52 (aq (capC a2)) r rfl rfl fun b5 w6 n7 r=>?_;have hP:Post (fun b=>b∈(memK a1g a1).own) [zpS ar zpk a0 a0v a0F,memK a1g a1,zpi b1 a0v.cells 133,zpi b5 ((capC a2)).toArray 52] w0 w6:=hP.new n7
 refine za7 (.cells (kq zpk) 133 (0,0)) r (fun R=>za6 zq4) rfl fun fr b9 w10 n11 r=>?_;have hP:Post (fun b=>b∈(memK a1g a1).own) [zpS ar zpk a0 a0v a0F,memK a1g a1,zpi b1 a0v.cells 133,zpi b5 ((capC a2)).toArray 52,zpi b9 (kq zpk) 133] w0 w10:=hP.new n11
 refine kA (.bool false) r rfl rfl fun r=>wn (aa (wsr (za0 _ r (fun R=>za3 r (b:=b1) (o:=0) (k:=0) rfl zeV) rfl fun fr r=>kL (.bool a0.2.zpB) r rfl (hP.cell (i:=2) rfl) to4 (Rep.ziL (hP.prog (i:=0) rfl)) rfl fun r=>wn ?_)));refine ae (t:=a0.2.zpB) (r.ev rfl) (fun h13=>?_) (fun h13=>?_)
 ·
  have hD:=(zao h13).symm.trans hD;refine wsr (za0 a0v r (fun R=>zh3 r (hP.prog (i:=0) rfl).shape rfl (hP.cell (i:=2) rfl) zq0) rfl fun fr r=>?_);refine kP r (hP.prog (i:=0) rfl).shape rfl rfl (hP.cell (i:=4) rfl) zq1 rfl rfl fun w14 u15 r=>?_
  have hP:Post (fun b=>b∈(memK a1g a1).own) [zpS ar zpk a0 a0v a0F,memK a1g a1,zpi b1 a0v.cells 133,zpi b5 ((capC a2)).toArray 52,zpi b9 a0v.cells 133] w0 w14:=hP.upd (i:=4) rfl u15
  refine kA (.bool false) r rfl rfl fun r=>wn (ac ?_);have hv:(a0,false,a1)=res:=Option.some.inj hD
  try dsimp only [Exit.then,Exit.inBlock]
  have hs:=(hP.prog (i:=0) rfl).shape.cells;refine zc9 (fn:=Tryz.f115) r rfl rfl (v':=(.bool false)) rfl (hP.cell (i:=4) rfl) (k:=6) hs.1 zq0 ?_;rw [←hs.2.2];subst hv;exact ⟨a0v,a0F,rfl,(hP.pick [1,0] rfl rfl).done (zbo rfl (ziH (fun b h=>.inl h) zc1))⟩
 have hD:=(zaq h13).symm.trans hD;refine ag (wsr (kM (zp a1g.mb) r rfl rfl fun r=>kG (capC a2) 2 r rfl (hP.cell (i:=3) rfl) ta52 rfl rfl fun r=>za0 _ r (fun R=>za3 r (b:=b1) (o:=0) (k:=1) rfl zjS) rfl fun fr r=>kG (zpu (T.acc a0.2)) 4 r rfl (hP.cell (i:=2) rfl) ta38 (Rep.zoj (hP.prog (i:=0) rfl) h13) rfl fun r=>?_));obtain ⟨x16,hx16,hD⟩:=zaj hD
 refine kC r (zgv w10 a1 a2 (T.acc a0.2) (hP.sep.pk [1] rfl rfl) hx16) rfl cl65 rfl ?_;rintro _ w17 ⟨rfl,hq⟩;refine ⟨_,rfl,fun fr r=>?_⟩
 have hP:Post (fun b=>b∈(memK a1g a1).own) [zpS ar zpk a0 a0v a0F,memK a1g x16.2.2,zpi b1 a0v.cells 133,zpi b5 ((capC a2)).toArray 52,zpi b9 (kq zpk) 133] w0 w17:=hP.setN (i:=1) rfl hq
 refine kM (.tuple #[(U x16.1),(.bool x16.2.1)]) r rfl rfl fun r=>za0 (U x16.1) r (fun R=>zb1 r (vs:=#[(U x16.1),(.bool x16.2.1)]) rfl rfl) rfl fun fr r=>za0 (.bool x16.2.1) r (fun R=>zb1 r (vs:=#[(U x16.1),(.bool x16.2.1)]) rfl rfl) rfl fun fr r=>kA (U x16.1) r rfl rfl fun r=>kA (.bool x16.2.1) r rfl rfl fun r=>wn (aa (wsr (kM (.bool x16.2.1) r rfl rfl fun r=>za0 (.bool (!x16.2.1)) r (fun R=>y_un r (u:=(.bool x16.2.1)) rfl rfl) rfl fun fr r=>wn ?_)));refine ae (t:=(!x16.2.1)) (r.ev rfl) (fun h18=>?_) (fun h18=>?_)
 ·
  have hD:=(zao h18).symm.trans hD;refine wsr (za0 a0v r (fun R=>zh3 r (hP.prog (i:=0) rfl).shape rfl (hP.cell (i:=2) rfl) zq0) rfl fun fr r=>?_);refine kP r (hP.prog (i:=0) rfl).shape rfl rfl (hP.cell (i:=4) rfl) zq1 rfl rfl fun w19 u20 r=>?_
  have hP:Post (fun b=>b∈(memK a1g a1).own) [zpS ar zpk a0 a0v a0F,memK a1g x16.2.2,zpi b1 a0v.cells 133,zpi b5 ((capC a2)).toArray 52,zpi b9 a0v.cells 133] w0 w19:=hP.upd (i:=4) rfl u20
  refine kA (.bool false) r rfl rfl fun r=>wn (ac ?_);have hv:(a0,false,x16.2.2)=res:=Option.some.inj hD
  try dsimp only [Exit.then,Exit.inBlock]
  have hs:=(hP.prog (i:=0) rfl).shape.cells;refine zc9 (fn:=Tryz.f115) r rfl rfl (v':=(.bool false)) rfl (hP.cell (i:=4) rfl) (k:=6) hs.1 zq0 ?_;rw [←hs.2.2];subst hv;exact ⟨a0v,a0F,rfl,(hP.pick [1,0] rfl rfl).done (zbo rfl (ziH (fun b h=>.inl h) zc1))⟩
 have hD:=(zaq h18).symm.trans hD;refine ag (wsr (za0 _ r (fun R=>za3 r (b:=b1) (o:=0) (k:=5) rfl zk0) rfl fun fr r=>?_));obtain ⟨nf21,n122,n223,hv24,hk25⟩:=Rep.zm1 (hP.prog (i:=0) rfl) h13
 refine kL (kf nf21 n122 n223) r rfl (hP.cell (i:=2) rfl) zqG hv24 rfl fun r=>kM (U x16.1) r rfl rfl fun r=>?_;obtain ⟨x26,hx26,hD⟩:=zaj hD
 refine zbq r (hk25.at_.2 x26 (by rw [zlE hx26]; exact Nat.lt_succ_self _) x16.1 w17 (Same.refl _ _) (Nat.le_refl _)) (fun R hc=>zca r rfl rfl hk25.at_.1 hc) rfl ?_;rintro _ w27 ⟨v28,rfl,hb,hr29⟩
 refine ⟨_,rfl,fun fr r=>?_⟩
 have zw27:=hP.size;have hP:Post (fun b=>b∈(memK a1g a1).own) [zpS ar zpk a0 a0v a0F,memK a1g x16.2.2,zpi b1 a0v.cells 133,zpi b5 ((capC a2)).toArray 52,zpi b9 (kq zpk) 133,zpS ar zpk (x26,T.next a0.2 x16.1) v28 (a0F++rg w17.heap.size w27.heap.size)] w0 w27:=hP.addProgF (k:=0) rfl hb hr29
 refine kP r (hP.prog (i:=5) rfl).shape rfl rfl (hP.cell (i:=4) rfl) zq1 rfl rfl fun w31 u32 r=>?_;have hP:Post (fun b=>b∈(memK a1g a1).own) [zpS ar zpk a0 a0v a0F,memK a1g x16.2.2,zpi b1 a0v.cells 133,zpi b5 ((capC a2)).toArray 52,zpi b9 v28.cells 133,zpS ar zpk (x26,T.next a0.2 x16.1) v28 (a0F++rg w17.heap.size w27.heap.size)] w0 w31:=hP.upd (i:=4) rfl u32
 refine kA (.bool true) r rfl rfl fun r=>wn (ac ?_);have hv:((x26,T.next a0.2 x16.1),true,x16.2.2)=res:=Option.some.inj hD
 try dsimp only [Exit.then,Exit.inBlock]
 have hs:=(hP.prog (i:=5) rfl).shape.cells;refine zc9 (fn:=Tryz.f115) r rfl rfl (v':=(.bool true)) rfl (hP.cell (i:=4) rfl) (k:=6) hs.1 zq0 ?_;rw [←hs.2.2];subst hv;exact ⟨v28,(a0F++rg w17.heap.size w27.heap.size),rfl,(hP.pick [1,5] rfl rfl).done (zbo rfl (ziH (fun b h=>(List.mem_append.1 h).elim .inl (fun h=>.inr (by have:=(zfD.1 h).1; omega))) zc1))⟩
def D.zeO (fu:Nat) (a0:Nat × T Unit) (a1:Mem) (a2:Cap) (a3:Int):Option (Unit × Int × Bool × Mem):=(loopThen (fun (x13:Int × Mem × (Nat × T Unit))=>(Option.bind (bif (decide (x13.1<a3)) then (some (!x13.2.2.2.zpB)) else (some false)) (fun (x19:Bool)=>(bif x19 then ((D.zdA fu x13.2.2 x13.2.1 a2).bind (fun (x23:(Nat × T Unit) × Bool × Mem)=>(bif (!x23.2.1) then (some (Lp.brk (x13.1,x23.2.2,x13.2.2))) else (some (Lp.next ((IntKind.i64.wrap (x13.1+1)),x23.2.2,x23.1)))))) else (some (Lp.brk (x13.1,x13.2.1,x13.2.2))))))) fu (0,a1,a0) (fun (x37:Int × Mem × (Nat × T Unit))=>(some ((),x37.1,x37.2.2.2.zpB,x37.2.1))))
theorem zjx {fu:Nat} (w0:World) {a0v:Value} {a0F:List Nat} (a0:Nat × T Unit) {a1g:MG} (a1:Mem) (a2:Cap) (a3:Int) (hS:Sep [zpS ar zpk a0 a0v a0F,memK a1g a1] w0) {res:Unit × Int × Bool × Mem} (hD:D.zeO fu a0 a1 a2 a3=some res) :
    Calls ar 61 #[a0v,zp a1g.mb,aq (capC a2),.int .i64 a3] w0 (fun e w'=>e=.returned (.tuple #[(.agg #[]),(.int .i64 res.2.1),(.bool res.2.2.1)])∧Done (fun b=>b∈(memK a1g a1).own) No [memK a1g res.2.2.2] w0 w'):=by
 refine enter Tryz.func61 rfl 39 rfl rfl fun fr r=>?_;have hP:Post (fun b=>b∈(memK a1g a1).own) [zpS ar zpk a0 a0v a0F,memK a1g a1] w0 w0:=.start hS (by simp [memK,zpS])
 unfold D.zeO at hD
 refine wsr ?_;refine kX 133 a0v r rfl rfl fun b1 w2 n3 r=>?_;have hP:Post (fun b=>b∈(memK a1g a1).own) [zpS ar zpk a0 a0v a0F,memK a1g a1,zpi b1 a0v.cells 133] w0 w2:=hP.new n3
 refine kX 52 (aq (capC a2)) r rfl rfl fun b5 w6 n7 r=>?_;have hP:Post (fun b=>b∈(memK a1g a1).own) [zpS ar zpk a0 a0v a0F,memK a1g a1,zpi b1 a0v.cells 133,zpi b5 ((capC a2)).toArray 52] w0 w6:=hP.new n7
 refine za7 (.cells #[] 128 (0,0)) r (fun R=>za6 zsD) rfl fun fr b9 w10 n11 r=>?_;have hP:Post (fun b=>b∈(memK a1g a1).own) [zpS ar zpk a0 a0v a0F,memK a1g a1,zpi b1 a0v.cells 133,zpi b5 ((capC a2)).toArray 52,zpi b9 #[] 128] w0 w10:=hP.new n11
 refine kA (I 0) r rfl rfl fun r=>kA (.bool false) r rfl rfl fun r=>wn (wsr (kA (I 0) r rfl rfl fun r=>wn (aa ?_)));refine zdZ (X:=Int × Mem × (Nat × T Unit)) (G:=Value × List Nat) (x0:=(0,a1,a0)) (fun x γ=>[(0,a0v),(1,(zp a1g.mb)),(2,(aq (capC a2))),(3,(I a3)),(4,(zp b1)),(6,(zp b5)),(8,(zp b9)),(9,(I 0)),(10,(.bool false)),(11,(I x.1))]) (fun x γ w=>Post (fun b=>b∈(memK a1g a1).own) [zpS ar zpk x.2.2 γ.1 γ.2,memK a1g x.2.1,zpi b1 γ.1.cells 133,zpi b5 ((capC a2)).toArray 52,zpi b9 #[] 128] w0 w) (a0v,a0F) r (kO (kO (zaa rfl (zaa rfl zaC)))) hP hD ?_ ?_
 ·
  rintro x13 γ14 fr w16 g y15 RPy15 nxy15 bky15 rty15 r hP hD;have hP:Post (fun b=>b∈(memK a1g a1).own) [zpS ar zpk x13.2.2 γ14.1 γ14.2,memK a1g x13.2.1,zpi b1 γ14.1.cells 133,zpi b5 ((capC a2)).toArray 52,zpi b9 #[] 128] w0 w16:=hP
  refine aa (aa ?_);refine zbs (N:=39) (Y:=Bool) (G:=Unit) (fun x γ=>[(0,a0v),(1,(zp a1g.mb)),(2,(aq (capC a2))),(3,(I a3)),(4,(zp b1)),(6,(zp b5)),(8,(zp b9)),(9,(I 0)),(10,(.bool false)),(11,(I x13.1)),(21,(.bool x))]) (fun x γ w=>Post (fun b=>b∈(memK a1g a1).own) [zpS ar zpk x13.2.2 γ14.1 γ14.2,memK a1g x13.2.1,zpi b1 γ14.1.cells 133,zpi b5 ((capC a2)).toArray 52,zpi b9 #[] 128] w0 w) hD ?_ ?_
  ·
   rintro y17 RPy17 nxy17 hD;refine af (kM (I x13.1) r rfl rfl fun r=>kM (I a3) r rfl rfl fun r=>kB r rfl rfl rfl rfl rfl fun r=>kM (.bool (decide (x13.1<a3))) r rfl rfl fun r=>?_);refine zaT (decide (x13.1<a3)) (fun h18=>?_) (fun h18=>?_)
   ·
    have hD:=(zao h18).symm.trans hD;refine s1 r h18 (za0 _ r (fun R=>za3 r (b:=b1) (o:=0) (k:=0) rfl zeV) rfl fun fr r=>s1 r h18 (kL (.bool x13.2.2.2.zpB) r rfl (hP.cell (i:=2) rfl) to4 (Rep.ziL (hP.prog (i:=0) rfl)) rfl fun r=>s1 r h18 (za0 (.bool (!x13.2.2.2.zpB)) r (fun R=>y_un r (u:=(.bool x13.2.2.2.zpB)) rfl rfl) rfl fun fr r=>za0 (.bool (!x13.2.2.2.zpB)) r (fun R=>zay r (b:=true) (kb h18) rfl) rfl fun fr r=>wn ?_)));exact nxy17 (!x13.2.2.2.zpB) () _ _ _ hD r (kO (kO (zaa rfl (zaa rfl (zaa rfl zaC))))) (hP.pick [0,1,2,3,4] rfl rfl)
   have hD:=(zaq h18).symm.trans hD;refine s0 r h18 fun fr r=>s0 r h18 fun fr r=>s0 r h18 fun fr r=>za0 (.bool false) r (fun R=>zay r (b:=false) (kb h18) rfl) rfl fun fr r=>wn ?_;exact nxy17 false () _ _ _ hD r (kO (kO (zaa rfl (zaa rfl (zaa rfl zaC))))) (hP.pick [0,1,2,3,4] rfl rfl)
  rintro x19 γ20 fr w21 g r hP hD;have hP:Post (fun b=>b∈(memK a1g a1).own) [zpS ar zpk x13.2.2 γ14.1 γ14.2,memK a1g x13.2.1,zpi b1 γ14.1.cells 133,zpi b5 ((capC a2)).toArray 52,zpi b9 #[] 128] w0 w21:=hP
  refine ae (t:=x19) (r.ev rfl) (fun h22=>?_) (fun h22=>?_)
  ·
   have hD:=(zao h22).symm.trans hD;refine ag (wp_block (wsr (za0 γ14.1 r (fun R=>zh3 r (hP.prog (i:=0) rfl).shape rfl (hP.cell (i:=2) rfl) zq0) rfl fun fr r=>kM (zp a1g.mb) r rfl rfl fun r=>kG (capC a2) 2 r rfl (hP.cell (i:=3) rfl) ta52 rfl rfl fun r=>?_)));obtain ⟨x23,hx23,hD⟩:=zaj hD
   refine kC r (zgP w21 x13.2.2 x13.2.1 a2 (hP.sep.pk [0,1] rfl rfl) hx23) rfl zt1 rfl ?_;rintro _ w24 ⟨v25,F26,rfl,hq⟩;refine ⟨_,rfl,fun fr r=>?_⟩
   have hP:Post (fun b=>b∈(memK a1g a1).own) [zpS ar zpk x13.2.2 γ14.1 γ14.2,memK a1g x23.2.2,zpi b1 γ14.1.cells 133,zpi b5 ((capC a2)).toArray 52,zpi b9 #[] 128,zpS ar zpk x23.1 v25 F26] w0 w24:=hP.setR (i:=1) (k:=0) rfl rfl rfl hq
   refine kM (.tuple #[v25,(.bool x23.2.1)]) r rfl rfl fun r=>za0 v25 r (fun R=>zb1 r (vs:=#[v25,(.bool x23.2.1)]) rfl rfl) rfl fun fr r=>za0 (.bool x23.2.1) r (fun R=>zb1 r (vs:=#[v25,(.bool x23.2.1)]) rfl rfl) rfl fun fr r=>?_;refine za7 (.cells (kq zpk) 133 (0,0)) r (fun R=>za6 zq4) rfl fun fr b28 w29 n30 r=>?_
   have hP:Post (fun b=>b∈(memK a1g a1).own) [zpS ar zpk x13.2.2 γ14.1 γ14.2,memK a1g x23.2.2,zpi b1 γ14.1.cells 133,zpi b5 ((capC a2)).toArray 52,zpi b9 #[] 128,zpS ar zpk x23.1 v25 F26,zpi b28 (kq zpk) 133] w0 w29:=hP.new n30
   refine kP r (hP.prog (i:=5) rfl).shape rfl rfl (hP.cell (i:=6) rfl) zq1 rfl rfl fun w32 u33 r=>?_;have hP:Post (fun b=>b∈(memK a1g a1).own) [zpS ar zpk x13.2.2 γ14.1 γ14.2,memK a1g x23.2.2,zpi b1 γ14.1.cells 133,zpi b5 ((capC a2)).toArray 52,zpi b9 #[] 128,zpS ar zpk x23.1 v25 F26,zpi b28 v25.cells 133] w0 w32:=hP.upd (i:=6) rfl u33
   refine kA (.bool x23.2.1) r rfl rfl fun r=>wn (aa (wsr (kM (.bool x23.2.1) r rfl rfl fun r=>za0 (.bool (!x23.2.1)) r (fun R=>y_un r (u:=(.bool x23.2.1)) rfl rfl) rfl fun fr r=>wn ?_)));refine ae (t:=(!x23.2.1)) (r.ev rfl) (fun h34=>?_) (fun h34=>?_)
   ·
    have hD:=(zao h34).symm.trans hD;refine wp_exit ?_;exact bky15 (x13.1,x23.2.2,x13.2.2) (γ14.1,γ14.2) _ _ _ hD r (kO (kO (zaa rfl (zaa rfl zaC)))) (hP.pick [0,1,2,3,4] rfl rfl)
   have hD:=(zaq h34).symm.trans hD;refine ag (wsr (za0 v25 r (fun R=>zh3 r (hP.prog (i:=5) rfl).shape rfl (hP.cell (i:=6) rfl) zq0) rfl fun fr r=>?_));refine kP r (hP.prog (i:=5) rfl).shape rfl rfl (hP.cell (i:=2) rfl) zq1 (by have h:=(hP.prog (i:=0) rfl).shape.cells.1; simpa using h) rfl fun w35 u36 r=>?_
   have hP:Post (fun b=>b∈(memK a1g a1).own) [zpS ar zpk x13.2.2 γ14.1 γ14.2,memK a1g x23.2.2,zpi b1 v25.cells 133,zpi b5 ((capC a2)).toArray 52,zpi b9 #[] 128,zpS ar zpk x23.1 v25 F26,zpi b28 v25.cells 133] w0 w35:=hP.upd (i:=2) rfl u36
   refine wn ?_;refine af (kM (I x13.1) r rfl rfl fun r=>kB r rfl rfl rfl rfl rfl fun r=>kA (I (W (x13.1+1))) r rfl rfl fun r=>wn ?_);exact nxy15 ((W (x13.1+1)),x23.2.2,x23.1) (v25,F26) _ _ _ hD r (kO (kO (zaa rfl (zaa rfl zaC)))) (hP.pick [5,1,2,3,4] rfl rfl)
  have hD:=(zaq h22).symm.trans hD;refine wp_exit ?_;exact bky15 (x13.1,x13.2.1,x13.2.2) (γ14.1,γ14.2) _ _ _ hD r (kO (kO (zaa rfl (zaa rfl zaC)))) (hP.pick [0,1,2,3,4] rfl rfl)
 rintro x37 γ38 fr w39 g r hP hD;have hP:Post (fun b=>b∈(memK a1g a1).own) [zpS ar zpk x37.2.2 γ38.1 γ38.2,memK a1g x37.2.1,zpi b1 γ38.1.cells 133,zpi b5 ((capC a2)).toArray 52,zpi b9 #[] 128] w0 w39:=hP
 refine aa ?_;refine zjr [b9] [.pred (fun v _ _ _=>∃ sp,v=.pointer (some ⟨b1,1,sp⟩)) (fun _ _ _ _ _ h _=>h),.val (.agg #[]),.val (I x37.1),.val (zp b1),.val (.bool x37.2.2.2.zpB),.eff (EffP w39.heap.size (zpi b9 #[] 128) (fun _:Unit=>undef) (fun _:Unit=>[])) (EffP.st _ _ _ _),.val (I x37.1),.val (.bool x37.2.2.2.zpB)] mixed r (fun b hb=>hP.sep.lt (i:=4) rfl (.inl hb)) kz ?_ ?_
 ·
  refine zbe r rfl kz (fun fr1 g w' hb' hd r'=>?_) ?_
  · exact zeu r' rfl zqB ((hP.below (dr hb')).cell (i:=2) rfl) (fun sp=>⟨Below.refl _ _,sp,rfl⟩)
  refine zbe r rfl kz (fun fr1 g w' hb' hd r'=>?_) ?_
  · obtain ⟨sp,hsp⟩:=(hd 0 rfl).1; exact zeY r' hsp zqr bz
  refine zaK r rfl (fun fr1 g w' hk' hd r'=>?_) ?_
  · exact zar r' (v:=(I x37.1)) rfl bz
  refine zaK r rfl (fun fr1 g w' hk' hd r'=>?_) ?_
  · exact za3 r' (b:=b1) (o:=0) (k:=0) rfl zeV bz
  refine zaK r rfl (fun fr1 g w' hk' hd r'=>?_) ?_
  · exact za4 r' (v:=(.bool x37.2.2.2.zpB)) (hd 3 rfl).1 (hP.cellK (j:=4) rfl (drK hk') (i:=2) rfl rfl) to4 (Rep.ziL (show Rep _ _ _ _ _ _ _ from hP.okK (j:=4) rfl (drK hk') (i:=0) rfl rfl)) bz
  refine zbe r rfl kz (fun fr1 g w' hb' hd r'=>?_) ?_
  · exact zax r' (o:=0) (v:=(.agg #[])) rfl (hd 1 rfl).1 ((hP.below (dr hb')).cell (i:=4) rfl) zse ak rfl rfl (fun w2 u2=>⟨u2.kept,(),rfl,u2.at_,(fun b hb=>hP.sep.lt (i:=4) rfl hb),zlm⟩)
  refine zaK r rfl (fun fr1 g w' hk' hd r'=>?_) ?_
  · exact zbW r' (v:=(I x37.1)) (hd 2 rfl).1 bz
  refine zaK r rfl (fun fr1 g w' hk' hd r'=>?_) ?_
  · exact zbW r' (v:=(.bool x37.2.2.2.zpB)) (hd 4 rfl).1 bz
  exact zb4
 intro fr gg w40 hb hΦ hap r;obtain ⟨⟨⟩,g5,hcE,_,hs5⟩:=(hΦ 5 rfl).1;have r:=r.congr (sc ((hΦ 7 rfl).1) (sc ((hΦ 6 rfl).1) (sc ((hΦ 4 rfl).1) (sc ((hΦ 3 rfl).1) (sc ((hΦ 2 rfl).1) (sc ((hΦ 1 rfl).1) (sc rfl rfl)))))));have hP:Post (fun b=>b∈(memK a1g a1).own) [zpS ar zpk x37.2.2 γ38.1 γ38.2,memK a1g x37.2.1,zpi b1 γ38.1.cells 133,zpi b5 ((capC a2)).toArray 52,zpi b9 #[] 128] w0 w40:=hP.effL (i:=4) (l:=[]) rfl hb hcE rfl rfl trivial
 refine ac ?_;have hv:((),x37.1,x37.2.2.2.zpB,x37.2.1)=res:=Option.some.inj hD
 try dsimp only [Exit.then,Exit.inBlock]
 refine zib (fn:=Tryz.f61) r rfl rfl (v':=(I x37.1)) (v2:=(.bool x37.2.2.2.zpB)) rfl rfl (hP.cell (i:=4) rfl) (k:=0) rfl zqr ?_;subst hv;exact ⟨rfl,(hP.pick [1] rfl rfl).done (zbo rfl zc1)⟩
def D.ze2 (fu:Nat) (a0:Nat × T Res) (a1:Mem) (a2:Cap):Option ((Nat × T Res) × Bool × Mem):=(bif a0.2.zpB then (some (a0,false,a1)) else ((D.zc2 fu a1 a2 (T.acc a0.2)).bind (fun (x16:Int × Bool × Mem)=>(bif (!x16.2.1) then (some (a0,false,x16.2.2)) else ((depthI a0.1).bind (fun (x26:Nat)=>(some ((x26,T.next a0.2 x16.1),true,x16.2.2))))))))
def D.zdK (fu:Nat) (a0:Nat × T Res) (a1:Mem) (a2:Cap) (a3:Int):Option (Res × Int × Bool × Mem):=(loopThen (fun (x13:Int × Mem × (Nat × T Res))=>(Option.bind (bif (decide (x13.1<a3)) then (some (!x13.2.2.2.zpB)) else (some false)) (fun (x19:Bool)=>(bif x19 then ((D.ze2 fu x13.2.2 x13.2.1 a2).bind (fun (x23:(Nat × T Res) × Bool × Mem)=>(bif (!x23.2.1) then (some (Lp.brk (x13.1,x23.2.2,x13.2.2))) else (some (Lp.next ((IntKind.i64.wrap (x13.1+1)),x23.2.2,x23.1)))))) else (some (Lp.brk (x13.1,x13.2.1,x13.2.2))))))) fu (0,a1,a0) (fun (x37:Int × Mem × (Nat × T Res))=>(some ((T.res (⟨0,0⟩:Res) x37.2.2.2),x37.1,x37.2.2.2.zpB,x37.2.1))))
end Go.Proofs.YtbbipmelhmgmfaaGreat
