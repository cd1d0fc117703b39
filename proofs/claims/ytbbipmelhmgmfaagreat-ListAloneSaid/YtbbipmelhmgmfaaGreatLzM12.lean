/- Some of our texts, one behind the other. -/
import Derived.Test.YtbbipmelhmgmfaaGreatLzM11
import Derived.Test.YtbbipmelhmgmfaaGreatLzMems
set_option linter.all false
set_option maxRecDepth 100000
set_option maxHeartbeats 20000000
/- Ours. -/
namespace Go.Proofs.YtbbipmelhmgmfaaGreat
open Go.RowKit
section
variable {n : Nat} {F : Nat → Prop} {j : Nat} {w0 : World}
theorem rq:af y6 229:=kz
theorem xx:af y6 302:=kz
theorem xM:af y6 303:=kz
theorem wI:af y6 304:=kz
theorem xu:af y6 313:=kz
theorem Ff:af y6 314:=kz
theorem wH:af y6 315:=kz
theorem FK:af y6 353:=kz
theorem xo:af y6 359:=kz
theorem EI:af y6 361:=kz
theorem FF:af y6 362:=kz
theorem xk:af y6 380:=kz
theorem wP:af y6 395:=kz
theorem FJ:af y6 396:=kz
theorem Gn:af y6 397:=kz
def D.iD (a0:Int):Int:=(IntKind.u64.wrap (IntKind.i64.wrap (a0+1)))
theorem tL (w0:World) 
    (a0:Int) :
    Calls y6 303 #[.int .i64 a0] w0 (bB (.int .u64 (D.iD a0)) w0):=by
 refine kN Tryz.func303 rfl 6 rfl rfl fun fr r hB=>?_;refine wsr (kA (U 0) r rfl rfl fun r=>wn (wsr (kM (I a0) r rfl rfl fun r=>kB r rfl rfl rfl rfl rfl fun r=>aa (U (V (W (a0+1)))) r (fun R=>cK r rfl ti3 ti34) rfl fun fr r=>kA (U (V (W (a0+1)))) r rfl rfl fun r=>wn (d9 ?_))))
 refine aU r rfl rfl ?_;exact ⟨rfl,hB⟩
def D.fj (GQ:Plan→Int→Int→T Bool) (c0:Int) (c1:Plan) (c2:Int) (a0:Int):T Bool:=(bif (a0==(D.iD c0)) then (D.l4 true) else (GQ c1 c0 (IntKind.i64.wrap (c2+1))))
def D.fa (GQ:Plan→Int→Int→T Bool) (a0:Plan) (a1:Int) (a2:Int):T Bool:=(bif (a2==(IntKind.i64.wrap (a0.threads * 3))) then (D.l4 false) else (D.pR (D.fH a0 (IntKind.i64.wrap (a2.tdiv 3)) (a2.tmod 3)) (fun x=>(D.fj GQ a1 a0 a2 x))))
def D.eB:Nat→Plan→Int→Int→T Bool
 | 0,_,_,_=>.cut
 | k+1,a0,a1,a2=>D.fa (D.eB k) a0 a1 a2
def pG (r:Plan→Int→Int→T Bool) (n:Nat):Prop:=∀ (F:Nat→Prop) (w0:World),(∀ b,F b→b<w0.heap.size)→∀ (a0:Plan) (a1:Int) (a2:Int),Calls y6 380 #[u7 (ae a0),.int .i64 a1,.int .i64 a2] w0 (aG y6 ct n (r a0 a1 a2) F w0)
theorem AP {GQ:Plan→Int→Int→T Bool} (hF:kH F w0) (Hp:∀ m,m≤n→pG GQ m)
    (c0:Int) {c0b:Nat} (c0F:F c0b) (c0h:w0.heap[c0b]?=some (.cells ([(.int .i64 c0)]).toArray 3 (0,0))) (c1:Plan) {c1b:Nat} (c1F:F c1b) (c1h:w0.heap[c1b]?=some (.cells ((ae c1)).toArray 23 (0,0))) (c2:Int) {c2b:Nat} (c2F:F c2b) (c2h:w0.heap[c2b]?=some (.cells ([(.int .i64 c2)]).toArray 3 (0,0))) (a0:Int) :
    Calls y6 397 #[.int .u64 a0,zp c0b,zp c1b,zp c2b] w0 (aG y6 ct n (D.fj GQ c0 c1 c2 a0) F w0):=by
 refine kN Tryz.func397 rfl 16 rfl rfl fun fr r hB=>?_;have lc0b:=q7 c0h
 have lc1b:=q7 c1h;have lc2b:=q7 c2h;refine wsr ?_;refine ah (.cells (kq ct) 318 (0,0)) r (fun R=>ag jT) rfl fun fr b1 w2 n3 r=>?_;obtain ⟨eb1,zw2,hb1,hB,zB⟩:=n3.all hB
 refine wn (a9 (wsr (kM (U a0) r rfl rfl fun r=>kL (I c0) r rfl (keep hB c0h) to3 rfl rfl fun r=>?_)));refine kE r (tL w2 c0) rfl xM rfl fun w4 hb r=>?_
 have zw4:=hb.size;have hb1:=keep hb hb1;obtain ⟨hB,zB⟩:=bon hb hB;refine kB r rfl rfl rfl rfl rfl fun r=>wn ?_;refine q4 (t:=(a0==(D.iD c0))) (r.ev rfl) (fun h5=>?_) (fun h5=>?_)
 ·
  refine wsr ?_;have hF1:=aQ hF hB b1;refine kD r (tj (F:=(kW F w0 w4 b1)) (n:=n) hF1 true) rfl wP rfl fun w6 v7 hb hr8 r=>?_;have zw6:=hb.size
  have hb1:=keep hb hb1;obtain ⟨hB,zB⟩:=bon hb hB;refine kP r hr8.shape rfl rfl hb1 ic rfl rfl fun w9 u10 r=>?_;have zw9:=u10.size
  have hb1:=u10.at_;obtain ⟨hB,zB⟩:=u10.on hB kw
  refine wn (d9 ?_);have hd:D.fj GQ c0 c1 c2 a0=(D.l4 true):=(ar h5).trans (rfl);have hs:=hr8.shape.cells;refine ak r rfl rfl hb1 (k:=7) hs.1 ib ?_;rw [←hs.2.2,hd];exact rfin hF hB hr8 u10 kw kw kw
 refine q6 (wsr (kG (ae c1) 6 r rfl (keep hB c1h) ta23 rfl rfl fun r=>kL (I c0) r rfl (keep hB c0h) to3 rfl rfl fun r=>kL (I c2) r rfl (keep hB c2h) to3 rfl rfl fun r=>kB r rfl rfl rfl rfl rfl fun r=>?_));have hF1:=aQ hF hB b1
 refine kD r ((Hp n kw) (kW F w0 w4 b1) _ hF1 c1 c0 (W (c2+1))) rfl xk rfl fun w11 v12 hb hr13 r=>?_;have zw11:=hb.size
 have hb1:=keep hb hb1;obtain ⟨hB,zB⟩:=bon hb hB;refine kP r hr13.shape rfl rfl hb1 ic rfl rfl fun w14 u15 r=>?_;have zw14:=u15.size
 have hb1:=u15.at_;obtain ⟨hB,zB⟩:=u15.on hB kw
 refine wn (d9 ?_);have hd:D.fj GQ c0 c1 c2 a0=(GQ c1 c0 (W (c2+1))):=(ai h5).trans (rfl);have hs:=hr13.shape.cells;refine ak r rfl rfl hb1 (k:=7) hs.1 ib ?_;rw [←hs.2.2,hd];exact rfin hF hB hr13 u15 kw kw kw
theorem Bp {n:Nat} {F:Nat→Prop} {GQ:Plan→Int→Int→T Bool} {w0:World} (hF:∀ b,F b→b<w0.heap.size) (Hp:∀ m,m<n→pG GQ m)
    (a0:Plan) (a1:Int) (a2:Int) :
    Calls y6 380 #[u7 (ae a0),.int .i64 a1,.int .i64 a2] w0 (aG y6 ct n (D.fa GQ a0 a1 a2) F w0):=by
 refine kN Tryz.func380 rfl 21 rfl rfl fun fr r hB=>?_;refine wsr ?_
 refine kX 23 (u7 (ae a0)) r rfl rfl fun b1 w2 n3 r=>?_;obtain ⟨eb1,zw2,hb1,hB,zB⟩:=n3.all hB
 refine kX 3 (I a1) r rfl rfl fun b4 w5 n6 r=>?_;have hb1:=keep n6.below hb1
 obtain ⟨eb4,zw5,hb4,hB,zB⟩:=n6.all hB;refine kX 3 (I a2) r rfl rfl fun b7 w8 n9 r=>?_;have hb1:=keep n9.below hb1
 have hb4:=keep n9.below hb4;obtain ⟨eb7,zw8,hb7,hB,zB⟩:=n9.all hB;refine ah (.cells (kq ct) 318 (0,0)) r (fun R=>ag jT) rfl fun fr b10 w11 n12 r=>?_;have hb1:=keep n12.below hb1
 have hb4:=keep n12.below hb4;have hb7:=keep n12.below hb7;obtain ⟨eb10,zw11,hb10,hB,zB⟩:=n12.all hB;refine wn (a9 (wsr (kL (I a2) r rfl hb7 to3 rfl rfl fun r=>kF 0 r rfl fX rfl fun r=>kL (I a0.threads) r rfl hb1 to3 rfl rfl fun r=>kB r rfl rfl rfl rfl rfl fun r=>kB r rfl rfl rfl rfl rfl fun r=>wn ?_)));refine q4 (t:=(a2==(W (a0.threads * 3)))) (r.ev rfl) (fun h13=>?_) (fun h13=>?_)
 ·
  refine wsr ?_;have hF1:=aQ hF hB b10;refine kD r (tj (F:=(kW F w0 w11 b10)) (n:=n) hF1 false) rfl wP rfl fun w14 v15 hb hr16 r=>?_;have zw14:=hb.size
  have hb1:=keep hb hb1;have hb4:=keep hb hb4;have hb7:=keep hb hb7;have hb10:=keep hb hb10;obtain ⟨hB,zB⟩:=bon hb hB;refine kP r hr16.shape rfl rfl hb10 ic rfl rfl fun w17 u18 r=>?_;have zw17:=u18.size
  have hb1:=u18.keep hb1 kw
  have hb4:=u18.keep hb4 kw
  have hb7:=u18.keep hb7 kw
  have hb10:=u18.at_;obtain ⟨hB,zB⟩:=u18.on hB kw
  refine wn (d9 ?_);have hd:D.fa GQ a0 a1 a2=(D.l4 false):=(ar h13).trans (rfl);have hs:=hr16.shape.cells;refine ak r rfl rfl hb10 (k:=7) hs.1 ib ?_;rw [←hs.2.2,hd];exact rfin hF hB hr16 u18 kw kw kw
 refine q6 (wsr (kG (ae a0) 6 r rfl hb1 ta23 rfl rfl fun r=>kL (I a2) r rfl hb7 to3 rfl rfl fun r=>kB r rfl rfl rfl rfl rfl fun r=>kL (I a2) r rfl hb7 to3 rfl rfl fun r=>kB r rfl rfl rfl rfl rfl fun r=>?_));refine kE r (sP w11 a0 (W (a2.tdiv 3)) (a2.tmod 3)) rfl xx rfl fun w19 hb r=>?_
 have zw19:=hb.size;have hb1:=keep hb hb1;have hb4:=keep hb hb4;have hb7:=keep hb hb7;have hb10:=keep hb hb10;obtain ⟨hB,zB⟩:=bon hb hB;refine aa (.func (.func 397) #[] #[zp b4,zp b1,zp b7]) r (fun R=>aZ r rfl) rfl fun fr r=>?_;have hF1:=aQ hF hB b10
 have f20:((kW F w0 w19 b10)) b4:=(.inr ⟨kw,kw,kw⟩)
 have f21:((kW F w0 w19 b10)) b1:=(.inr ⟨kw,kw,kw⟩)
 have f22:((kW F w0 w19 b10)) b7:=(.inr ⟨kw,kw,kw⟩)
 refine kD r (Au (F:=(kW F w0 w19 b10)) (n:=n) hF1 (D.fH a0 (W (a2.tdiv 3)) (a2.tmod 3)) ⟨397,[],[zp b4,zp b1,zp b7],Gn,rfl,fun m hm x w' hs hz=>AP (fun b hb=>q8 (hF1 b hb) hz) (fun m' hm'=>Hp m' kw) a1 f20 (hs.at_ f20 hb4) a0 f21 (hs.at_ f21 hb1) a2 f22 (hs.at_ f22 hb7) x⟩) rfl FJ rfl fun w23 v24 hb hr25 r=>?_;have zw23:=hb.size
 have hb1:=keep hb hb1;have hb4:=keep hb hb4;have hb7:=keep hb hb7;have hb10:=keep hb hb10;obtain ⟨hB,zB⟩:=bon hb hB;refine kP r hr25.shape rfl rfl hb10 ic rfl rfl fun w26 u27 r=>?_;have zw26:=u27.size
 have hb1:=u27.keep hb1 kw
 have hb4:=u27.keep hb4 kw
 have hb7:=u27.keep hb7 kw
 have hb10:=u27.at_;obtain ⟨hB,zB⟩:=u27.on hB kw
 refine wn (d9 ?_);have hd:D.fa GQ a0 a1 a2=(D.pR (D.fH a0 (W (a2.tdiv 3)) (a2.tmod 3)) (fun x=>(D.fj GQ a1 a0 a2 x))):=(ai h13).trans (rfl)
 have hs:=hr25.shape.cells;refine ak r rfl rfl hb10 (k:=7) hs.1 ib ?_;rw [←hs.2.2,hd];exact rfin hF hB hr25 u27 kw kw kw
theorem Bl {n:Nat} {k:Nat} (hk:n<k):pG (D.eB k) n:=by
 induction n using Nat.strongRecOn generalizing k with
 | _ n ih=>
  obtain ⟨k,rfl⟩:∃ q,k=q+1:=⟨k - 1,kw⟩
  intro F w0 hF;have h:=@Bp n F (D.eB k) w0 hF (fun m hm=>ih m hm kw)
  exact h
def D.nK (j:Nat) (a0:Plan) (a1:Int):T Bool:=(D.eB j a0 a1 0)
theorem Br (hF:kH F w0) (hj:n<j)
    (a0:Plan) (a1:Int) :
    Calls y6 349 #[u7 (ae a0),.int .i64 a1] w0 (aG y6 ct n (D.nK j a0 a1) F w0):=by
 refine kN Tryz.func349 rfl 8 rfl rfl fun fr r hB=>?_;refine wsr ?_
 refine kX 23 (u7 (ae a0)) r rfl rfl fun b1 w2 n3 r=>?_;obtain ⟨eb1,zw2,hb1,hB,zB⟩:=n3.all hB
 refine ah (.cells (kq ct) 318 (0,0)) r (fun R=>ag jT) rfl fun fr b4 w5 n6 r=>?_;have hb1:=keep n6.below hb1
 obtain ⟨eb4,zw5,hb4,hB,zB⟩:=n6.all hB;refine wn (wsr (kG (ae a0) 6 r rfl hb1 ta23 rfl rfl fun r=>kM (I a1) r rfl rfl fun r=>?_));have hF1:=aQ hF hB b4
 refine kD r ((Bl (k:=j) (n:=n) kw) (kW F w0 w5 b4) _ hF1 a0 a1 0) rfl xk rfl fun w7 v8 hb hr9 r=>?_;have zw7:=hb.size
 have hb1:=keep hb hb1;have hb4:=keep hb hb4;obtain ⟨hB,zB⟩:=bon hb hB;refine kP r hr9.shape rfl rfl hb4 ic rfl rfl fun w10 u11 r=>?_;have zw10:=u11.size
 have hb1:=u11.keep hb1 kw
 have hb4:=u11.at_;obtain ⟨hB,zB⟩:=u11.on hB kw
 exact wn (d9 (kR r hr9 rfl rfl hb4 rfl ib hF hB u11 kw kw kw))
def D.fk (a0:Plan) (a1:Int) (a2:Int) (a3:Int):T Unit:=(D.lJ (D.fH a0 a1 a2) (D.iD a3))
theorem qg (hF:kH F w0)
    (a0:Plan) (a1:Int) (a2:Int) (a3:Int) :
    Calls y6 229 #[u7 (ae a0),.int .i64 a1,.int .i64 a2,.int .i64 a3] w0 (aG y6 aD n (D.fk a0 a1 a2 a3) F w0):=by
 refine kN Tryz.func229 rfl 16 rfl rfl fun fr r hB=>?_;refine wsr ?_
 refine kX 23 (u7 (ae a0)) r rfl rfl fun b1 w2 n3 r=>?_;obtain ⟨eb1,zw2,hb1,hB,zB⟩:=n3.all hB
 refine ah (.cells (kq aD) 133 (0,0)) r (fun R=>ag dA) rfl fun fr b4 w5 n6 r=>?_;have hb1:=keep n6.below hb1
 obtain ⟨eb4,zw5,hb4,hB,zB⟩:=n6.all hB;refine wn (wsr (kG (ae a0) 6 r rfl hb1 ta23 rfl rfl fun r=>kM (I a1) r rfl rfl fun r=>kM (I a2) r rfl rfl fun r=>?_));refine kE r (sP w5 a0 a1 a2) rfl xx rfl fun w7 hb r=>?_
 have zw7:=hb.size;have hb1:=keep hb hb1;have hb4:=keep hb hb4;obtain ⟨hB,zB⟩:=bon hb hB;refine kM (I a3) r rfl rfl fun r=>?_;refine kE r (tL w7 a3) rfl xM rfl fun w8 hb r=>?_
 have zw8:=hb.size;have hb1:=keep hb hb1;have hb4:=keep hb hb4;obtain ⟨hB,zB⟩:=bon hb hB;have hF1:=aQ hF hB b4;refine kD r (uo (F:=(kW F w0 w8 b4)) (n:=n) hF1 (D.fH a0 a1 a2) (D.iD a3)) rfl xb rfl fun w9 v10 hb hr11 r=>?_;have zw9:=hb.size
 have hb1:=keep hb hb1;have hb4:=keep hb hb4;obtain ⟨hB,zB⟩:=bon hb hB;refine kP r hr11.shape rfl rfl hb4 cX rfl rfl fun w12 u13 r=>?_;have zw12:=u13.size
 have hb1:=u13.keep hb1 kw
 have hb4:=u13.at_;obtain ⟨hB,zB⟩:=u13.on hB kw
 exact wn (d9 (kR r hr11 rfl rfl hb4 rfl cT hF hB u13 kw kw kw))
def D.kK (F6:Plan→Int→Int→Int→Int→Int→T Int) (c0:Int) (c1:Plan) (c2:Int) (c3:Int) (c4:Int) (c5:Int) (a0:Int):T Int:=(bif (a0==c0) then (D.ky c0) else (F6 c1 c2 c3 c4 c5 a0))
def D.nr (F6:Plan→Int→Int→Int→Int→Int→T Int) (c0:Int) (c1:Int) (c2:Plan) (c3:Int) (c4:Int) (c5:Int):T Int:=(D.mS c0 (fun x=>(D.kK F6 c1 c2 c3 c4 c0 c5 x)))
def D.iw (F6:Plan→Int→Int→Int→Int→Int→T Int) (a0:Plan) (a1:Int) (a2:Int) (a3:Int) (a4:Int) (a5:Int):T Int:=(bif (decide ((IntKind.i64.wrap ((IntKind.i64.wrap (shrI .u64 a5 a4)) - 1))<0)) then (D.ky a5) else (T.bind (D.fk a0 a1 a2 (IntKind.i64.wrap ((IntKind.i64.wrap (shrI .u64 a5 a4)) - 1))) (fun _=>(D.nr F6 a3 a5 a0 a1 a2 a4))))
def D.fN:Nat→Plan→Int→Int→Int→Int→Int→T Int
 | 0,_,_,_,_,_,_=>.cut
 | k+1,a0,a1,a2,a3,a4,a5=>D.iw (D.fN k) a0 a1 a2 a3 a4 a5
def mM (r:Plan→Int→Int→Int→Int→Int→T Int) (n:Nat):Prop:=∀ (F:Nat→Prop) (w0:World),(∀ b,F b→b<w0.heap.size)→∀ (a0:Plan) (a1:Int) (a2:Int) (a3:Int) (a4:Int) (a5:Int) (_:0≤a4),Calls y6 315 #[u7 (ae a0),.int .i64 a1,.int .i64 a2,.int .i64 a3,.int .i64 a4,.int .u64 a5] w0 (aG y6 bH n (r a0 a1 a2 a3 a4 a5) F w0)
theorem zR {F6:Plan→Int→Int→Int→Int→Int→T Int} (hF:kH F w0) (Ha:∀ m,m≤n→mM F6 m)
    (c0:Int) {c0b:Nat} (c0F:F c0b) (c0h:w0.heap[c0b]?=some (.cells ([(.int .u64 c0)]).toArray 34 (0,0))) (c1:Plan) {c1b:Nat} (c1F:F c1b) (c1h:w0.heap[c1b]?=some (.cells ((ae c1)).toArray 23 (0,0))) (c2:Int) {c2b:Nat} (c2F:F c2b) (c2h:w0.heap[c2b]?=some (.cells ([(.int .i64 c2)]).toArray 3 (0,0))) (c3:Int) {c3b:Nat} (c3F:F c3b) (c3h:w0.heap[c3b]?=some (.cells ([(.int .i64 c3)]).toArray 3 (0,0))) (c4:Int) {c4b:Nat} (c4F:F c4b) (c4h:w0.heap[c4b]?=some (.cells ([(.int .i64 c4)]).toArray 3 (0,0))) (c5:Int) {c5b:Nat} (c5F:F c5b) (c5h:w0.heap[c5b]?=some (.cells ([(.int .i64 c5)]).toArray 3 (0,0))) (a0:Int) (pre0:0≤c5) :
    Calls y6 362 #[.int .u64 a0,zp c0b,zp c1b,zp c2b,zp c3b,zp c4b,zp c5b] w0 (aG y6 bH n (D.kK F6 c0 c1 c2 c3 c4 c5 a0) F w0):=by
 refine kN Tryz.func362 rfl 21 rfl rfl fun fr r hB=>?_;have lc0b:=q7 c0h
 have lc1b:=q7 c1h;have lc2b:=q7 c2h;have lc3b:=q7 c3h;have lc4b:=q7 c4h;have lc5b:=q7 c5h;refine wsr ?_;refine ah (.cells (kq bH) 271 (0,0)) r (fun R=>ag eY) rfl fun fr b1 w2 n3 r=>?_;obtain ⟨eb1,zw2,hb1,hB,zB⟩:=n3.all hB
 refine wn (a9 (wsr (kM (U a0) r rfl rfl fun r=>kL (U c0) r rfl (keep hB c0h) to34 rfl rfl fun r=>kB r rfl rfl rfl rfl rfl fun r=>wn ?_)));refine q4 (t:=(a0==c0)) (r.ev rfl) (fun h4=>?_) (fun h4=>?_)
 ·
  refine wsr (kL (U c0) r rfl (keep hB c0h) to34 rfl rfl fun r=>?_);have hF1:=aQ hF hB b1
  refine kD r (sO (F:=(kW F w0 w2 b1)) (n:=n) hF1 c0) rfl xo rfl fun w5 v6 hb hr7 r=>?_;have zw5:=hb.size
  have hb1:=keep hb hb1;obtain ⟨hB,zB⟩:=bon hb hB;refine kP r hr7.shape rfl rfl hb1 eI rfl rfl fun w8 u9 r=>?_;have zw8:=u9.size
  have hb1:=u9.at_;obtain ⟨hB,zB⟩:=u9.on hB kw
  refine wn (d9 ?_);have hd:D.kK F6 c0 c1 c2 c3 c4 c5 a0=(D.ky c0):=(ar h4).trans (rfl);have hs:=hr7.shape.cells;refine ak r rfl rfl hb1 (k:=7) hs.1 eH ?_;rw [←hs.2.2,hd];exact rfin hF hB hr7 u9 kw kw kw
 refine q6 (wsr (kG (ae c1) 6 r rfl (keep hB c1h) ta23 rfl rfl fun r=>kL (I c2) r rfl (keep hB c2h) to3 rfl rfl fun r=>kL (I c3) r rfl (keep hB c3h) to3 rfl rfl fun r=>kL (I c4) r rfl (keep hB c4h) to3 rfl rfl fun r=>kL (I c5) r rfl (keep hB c5h) to3 rfl rfl fun r=>kM (U a0) r rfl rfl fun r=>?_));have hF1:=aQ hF hB b1
 refine kD r ((Ha n kw) (kW F w0 w2 b1) _ hF1 c1 c2 c3 c4 c5 a0 yaw) rfl wH rfl fun w10 v11 hb hr12 r=>?_;have zw10:=hb.size
 have hb1:=keep hb hb1;obtain ⟨hB,zB⟩:=bon hb hB;refine kP r hr12.shape rfl rfl hb1 eI rfl rfl fun w13 u14 r=>?_;have zw13:=u14.size
 have hb1:=u14.at_;obtain ⟨hB,zB⟩:=u14.on hB kw
 refine wn (d9 ?_);have hd:D.kK F6 c0 c1 c2 c3 c4 c5 a0=(F6 c1 c2 c3 c4 c5 a0):=(ai h4).trans (rfl);have hs:=hr12.shape.cells;refine ak r rfl rfl hb1 (k:=7) hs.1 eH ?_;rw [←hs.2.2,hd];exact rfin hF hB hr12 u14 kw kw kw
theorem Ar {F6:Plan→Int→Int→Int→Int→Int→T Int} (hF:kH F w0) (Ha:∀ m,m<n→mM F6 m)
    (c0:Int) {c0b:Nat} (c0F:F c0b) (c0h:w0.heap[c0b]?=some (.cells ([(.int .i64 c0)]).toArray 3 (0,0))) (c1:Int) {c1b:Nat} (c1F:F c1b) (c1h:w0.heap[c1b]?=some (.cells ([(.int .u64 c1)]).toArray 34 (0,0))) (c2:Plan) {c2b:Nat} (c2F:F c2b) (c2h:w0.heap[c2b]?=some (.cells ((ae c2)).toArray 23 (0,0))) (c3:Int) {c3b:Nat} (c3F:F c3b) (c3h:w0.heap[c3b]?=some (.cells ([(.int .i64 c3)]).toArray 3 (0,0))) (c4:Int) {c4b:Nat} (c4F:F c4b) (c4h:w0.heap[c4b]?=some (.cells ([(.int .i64 c4)]).toArray 3 (0,0))) (c5:Int) {c5b:Nat} (c5F:F c5b) (c5h:w0.heap[c5b]?=some (.cells ([(.int .i64 c5)]).toArray 3 (0,0))) (pre0:0≤c5) :
    Calls y6 361 #[.agg #[],zp c0b,zp c1b,zp c2b,zp c3b,zp c4b,zp c5b] w0 (aG y6 bH n (D.nr F6 c0 c1 c2 c3 c4 c5) F w0):=by
 refine kN Tryz.func361 rfl 12 rfl rfl fun fr r hB=>?_;have lc0b:=q7 c0h
 have lc1b:=q7 c1h;have lc2b:=q7 c2h;have lc3b:=q7 c3h;have lc4b:=q7 c4h;have lc5b:=q7 c5h;refine wsr ?_;refine kX 128 (.agg #[]) r rfl rfl fun b1 w2 n3 r=>?_;obtain ⟨eb1,zw2,hb1,hB,zB⟩:=n3.all hB
 refine ah (.cells (kq bH) 271 (0,0)) r (fun R=>ag eY) rfl fun fr b4 w5 n6 r=>?_;have hb1:=keep n6.below hb1
 obtain ⟨eb4,zw5,hb4,hB,zB⟩:=n6.all hB;refine wn (wsr (kL (I c0) r rfl (keep hB c0h) to3 rfl rfl fun r=>aa (.func (.func 362) #[] #[zp c1b,zp c2b,zp c3b,zp c4b,zp c0b,zp c5b]) r (fun R=>aZ r rfl) rfl fun fr r=>?_));have hF1:=aQ hF hB b4
 have f7:((kW F w0 w5 b4)) c1b:=(.inl c1F);have f8:((kW F w0 w5 b4)) c2b:=(.inl c2F);have f9:((kW F w0 w5 b4)) c3b:=(.inl c3F);have f10:((kW F w0 w5 b4)) c4b:=(.inl c4F);have f11:((kW F w0 w5 b4)) c0b:=(.inl c0F);have f12:((kW F w0 w5 b4)) c5b:=(.inl c5F);refine kD r (sN (F:=(kW F w0 w5 b4)) (n:=n) hF1 c0 ⟨362,[],[zp c1b,zp c2b,zp c3b,zp c4b,zp c0b,zp c5b],FF,rfl,fun m hm x w' hs hz=>zR (fun b hb=>q8 (hF1 b hb) hz) (fun m' hm'=>Ha m' kw) c1 f7 (hs.at_ f7 (keep hB c1h)) c2 f8 (hs.at_ f8 (keep hB c2h)) c3 f9 (hs.at_ f9 (keep hB c3h)) c4 f10 (hs.at_ f10 (keep hB c4h)) c0 f11 (hs.at_ f11 (keep hB c0h)) c5 f12 (hs.at_ f12 (keep hB c5h)) x yaw⟩) rfl xu rfl fun w13 v14 hb hr15 r=>?_;have zw13:=hb.size
 have hb1:=keep hb hb1;have hb4:=keep hb hb4;obtain ⟨hB,zB⟩:=bon hb hB;refine kP r hr15.shape rfl rfl hb4 eI rfl rfl fun w16 u17 r=>?_;have zw16:=u17.size
 have hb1:=u17.keep hb1 kw
 have hb4:=u17.at_;obtain ⟨hB,zB⟩:=u17.on hB kw
 exact wn (d9 (kR r hr15 rfl rfl hb4 rfl eH hF hB u17 kw kw kw))
theorem Ba {n:Nat} {F:Nat→Prop} {F6:Plan→Int→Int→Int→Int→Int→T Int} {w0:World} (hF:∀ b,F b→b<w0.heap.size) (Ha:∀ m,m<n→mM F6 m)
    (a0:Plan) (a1:Int) (a2:Int) (a3:Int) (a4:Int) (a5:Int) (pre0:0≤a4) :
    Calls y6 315 #[u7 (ae a0),.int .i64 a1,.int .i64 a2,.int .i64 a3,.int .i64 a4,.int .u64 a5] w0 (aG y6 bH n (D.iw F6 a0 a1 a2 a3 a4 a5) F w0):=by
 refine kN Tryz.func315 rfl 30 rfl rfl fun fr r hB=>?_;refine wsr ?_
 refine kX 23 (u7 (ae a0)) r rfl rfl fun b1 w2 n3 r=>?_;obtain ⟨eb1,zw2,hb1,hB,zB⟩:=n3.all hB
 refine kX 3 (I a1) r rfl rfl fun b4 w5 n6 r=>?_;have hb1:=keep n6.below hb1
 obtain ⟨eb4,zw5,hb4,hB,zB⟩:=n6.all hB;refine kX 3 (I a2) r rfl rfl fun b7 w8 n9 r=>?_;have hb1:=keep n9.below hb1
 have hb4:=keep n9.below hb4;obtain ⟨eb7,zw8,hb7,hB,zB⟩:=n9.all hB;refine kX 3 (I a3) r rfl rfl fun b10 w11 n12 r=>?_;have hb1:=keep n12.below hb1
 have hb4:=keep n12.below hb4;have hb7:=keep n12.below hb7;obtain ⟨eb10,zw11,hb10,hB,zB⟩:=n12.all hB;refine kX 3 (I a4) r rfl rfl fun b13 w14 n15 r=>?_;have hb1:=keep n15.below hb1
 have hb4:=keep n15.below hb4;have hb7:=keep n15.below hb7;have hb10:=keep n15.below hb10;obtain ⟨eb13,zw14,hb13,hB,zB⟩:=n15.all hB;refine kX 34 (U a5) r rfl rfl fun b16 w17 n18 r=>?_;have hb1:=keep n18.below hb1
 have hb4:=keep n18.below hb4;have hb7:=keep n18.below hb7;have hb10:=keep n18.below hb10;have hb13:=keep n18.below hb13;obtain ⟨eb16,zw17,hb16,hB,zB⟩:=n18.all hB;refine ah (.cells (kq bH) 271 (0,0)) r (fun R=>ag eY) rfl fun fr b19 w20 n21 r=>?_;have hb1:=keep n21.below hb1
 have hb4:=keep n21.below hb4;have hb7:=keep n21.below hb7;have hb10:=keep n21.below hb10;have hb13:=keep n21.below hb13;have hb16:=keep n21.below hb16;obtain ⟨eb19,zw20,hb19,hB,zB⟩:=n21.all hB;refine wn (wsr (kL (U a5) r rfl hb16 to34 rfl rfl fun r=>kL (I a4) r rfl hb13 to3 rfl rfl fun r=>kB r rfl rfl rfl (qR yaw) rfl fun r=>aa (I (W (shrI .u64 a5 a4))) r (fun R=>cK r rfl ti34 ti3) rfl fun fr r=>kB r rfl rfl rfl rfl rfl fun r=>kA (I (W ((W (shrI .u64 a5 a4)) - 1))) r rfl rfl fun r=>wn (a9 (wsr (kM (I (W ((W (shrI .u64 a5 a4)) - 1))) r rfl rfl fun r=>kB r rfl rfl rfl rfl rfl fun r=>wn ?_)))));refine q4 (t:=(decide ((W ((W (shrI .u64 a5 a4)) - 1))<0))) (r.ev rfl) (fun h22=>?_) (fun h22=>?_)
 ·
  refine wsr (kL (U a5) r rfl hb16 to34 rfl rfl fun r=>?_);have hF1:=aQ hF hB b19
  refine kD r (sO (F:=(kW F w0 w20 b19)) (n:=n) hF1 a5) rfl xo rfl fun w23 v24 hb hr25 r=>?_;have zw23:=hb.size
  have hb1:=keep hb hb1;have hb4:=keep hb hb4;have hb7:=keep hb hb7;have hb10:=keep hb hb10;have hb13:=keep hb hb13;have hb16:=keep hb hb16;have hb19:=keep hb hb19;obtain ⟨hB,zB⟩:=bon hb hB;refine kP r hr25.shape rfl rfl hb19 eI rfl rfl fun w26 u27 r=>?_;have zw26:=u27.size
  have hb1:=u27.keep hb1 kw
  have hb4:=u27.keep hb4 kw
  have hb7:=u27.keep hb7 kw
  have hb10:=u27.keep hb10 kw
  have hb13:=u27.keep hb13 kw
  have hb16:=u27.keep hb16 kw
  have hb19:=u27.at_;obtain ⟨hB,zB⟩:=u27.on hB kw
  refine wn (d9 ?_);have hd:D.iw F6 a0 a1 a2 a3 a4 a5=(D.ky a5):=(ar h22).trans (rfl);have hs:=hr25.shape.cells;refine ak r rfl rfl hb19 (k:=7) hs.1 eH ?_;rw [←hs.2.2,hd];exact rfin hF hB hr25 u27 kw kw kw
 refine q6 (wsr (kG (ae a0) 6 r rfl hb1 ta23 rfl rfl fun r=>kL (I a1) r rfl hb4 to3 rfl rfl fun r=>kL (I a2) r rfl hb7 to3 rfl rfl fun r=>kM (I (W ((W (shrI .u64 a5 a4)) - 1))) r rfl rfl fun r=>?_));have hF1:=aQ hF hB b19
 refine kD r (qg (F:=(kW F w0 w20 b19)) (n:=n) hF1 a0 a1 a2 (W ((W (shrI .u64 a5 a4)) - 1))) rfl rq rfl fun w28 v29 hb hr30 r=>?_;have zw28:=hb.size
 have hb1:=keep hb hb1;have hb4:=keep hb hb4;have hb7:=keep hb hb7;have hb10:=keep hb hb10;have hb13:=keep hb hb13;have hb16:=keep hb hb16;have hb19:=keep hb hb19;obtain ⟨hB,zB⟩:=bon hb hB;refine aa (.func (.func 361) #[] #[zp b10,zp b16,zp b1,zp b4,zp b7,zp b13]) r (fun R=>aZ r rfl) rfl fun fr r=>?_;have hF1:=aQ hF hB b19
 have f31:((kW F w0 w28 b19)) b10:=(.inr ⟨kw,kw,kw⟩)
 have f32:((kW F w0 w28 b19)) b16:=(.inr ⟨kw,kw,kw⟩)
 have f33:((kW F w0 w28 b19)) b1:=(.inr ⟨kw,kw,kw⟩)
 have f34:((kW F w0 w28 b19)) b4:=(.inr ⟨kw,kw,kw⟩)
 have f35:((kW F w0 w28 b19)) b7:=(.inr ⟨kw,kw,kw⟩)
 have f36:((kW F w0 w28 b19)) b13:=(.inr ⟨kw,kw,kw⟩)
 refine kD r (yg (F:=(kW F w0 w28 b19)) (n:=n) hF1 (Rep.mono yaf (Same.refl _ _) kw n _ _ hr30) ⟨361,[],[zp b10,zp b16,zp b1,zp b4,zp b7,zp b13],EI,rfl,fun m hm _ w' hs hz=>Ar (fun b hb=>q8 (hF1 b hb) hz) (fun m' hm'=>Ha m' kw) a3 f31 (hs.at_ f31 hb10) a5 f32 (hs.at_ f32 hb16) a0 f33 (hs.at_ f33 hb1) a1 f34 (hs.at_ f34 hb4) a2 f35 (hs.at_ f35 hb7) a4 f36 (hs.at_ f36 hb13) yaw⟩) rfl xK rfl fun w37 v38 hb hr39 r=>?_
 have zw37:=hb.size;have hb1:=keep hb hb1;have hb4:=keep hb hb4;have hb7:=keep hb hb7;have hb10:=keep hb hb10;have hb13:=keep hb hb13;have hb16:=keep hb hb16;have hb19:=keep hb hb19;obtain ⟨hB,zB⟩:=bon hb hB;refine kP r hr39.shape rfl rfl hb19 eI rfl rfl fun w40 u41 r=>?_;have zw40:=u41.size
 have hb1:=u41.keep hb1 kw
 have hb4:=u41.keep hb4 kw
 have hb7:=u41.keep hb7 kw
 have hb10:=u41.keep hb10 kw
 have hb13:=u41.keep hb13 kw
 have hb16:=u41.keep hb16 kw
 have hb19:=u41.at_;obtain ⟨hB,zB⟩:=u41.on hB kw
 refine wn (d9 ?_);have hd:D.iw F6 a0 a1 a2 a3 a4 a5=(T.bind (D.fk a0 a1 a2 (W ((W (shrI .u64 a5 a4)) - 1))) (fun _=>(D.nr F6 a3 a5 a0 a1 a2 a4))):=(ai h22).trans (rfl)
 have hs:=hr39.shape.cells;refine ak r rfl rfl hb19 (k:=7) hs.1 eH ?_;rw [←hs.2.2,hd];exact rfin hF hB hr39 u41 kw kw kw
theorem AV {n:Nat} {k:Nat} (hk:n<k):mM (D.fN k) n:=by
 induction n using Nat.strongRecOn generalizing k with
 | _ n ih=>
  obtain ⟨k,rfl⟩:∃ q,k=q+1:=⟨k - 1,kw⟩
  intro F w0 hF;have h:=@Ba n F (D.fN k) w0 hF (fun m hm=>ih m hm kw)
  exact h
def D.nj (j:Nat) (c0:Plan) (c1:Int) (c2:Int) (c3:Int) (c4:Int) (a0:Int):T Int:=(D.fN j c0 c1 c2 c3 c4 a0)
theorem Ai (hF:kH F w0) (hj:n<j)
    (c0:Plan) {c0b:Nat} (c0F:F c0b) (c0h:w0.heap[c0b]?=some (.cells ((ae c0)).toArray 23 (0,0))) (c1:Int) {c1b:Nat} (c1F:F c1b) (c1h:w0.heap[c1b]?=some (.cells ([(.int .i64 c1)]).toArray 3 (0,0))) (c2:Int) {c2b:Nat} (c2F:F c2b) (c2h:w0.heap[c2b]?=some (.cells ([(.int .i64 c2)]).toArray 3 (0,0))) (c3:Int) {c3b:Nat} (c3F:F c3b) (c3h:w0.heap[c3b]?=some (.cells ([(.int .i64 c3)]).toArray 3 (0,0))) (c4:Int) {c4b:Nat} (c4F:F c4b) (c4h:w0.heap[c4b]?=some (.cells ([(.int .i64 c4)]).toArray 3 (0,0))) (a0:Int) (pre0:0≤c4) :
    Calls y6 314 #[.int .u64 a0,zp c0b,zp c1b,zp c2b,zp c3b,zp c4b] w0 (aG y6 bH n (D.nj j c0 c1 c2 c3 c4 a0) F w0):=by
 refine kN Tryz.func314 rfl 15 rfl rfl fun fr r hB=>?_;have lc0b:=q7 c0h
 have lc1b:=q7 c1h;have lc2b:=q7 c2h;have lc3b:=q7 c3h;have lc4b:=q7 c4h;refine wsr ?_;refine ah (.cells (kq bH) 271 (0,0)) r (fun R=>ag eY) rfl fun fr b1 w2 n3 r=>?_;obtain ⟨eb1,zw2,hb1,hB,zB⟩:=n3.all hB
 refine wn (wsr (kG (ae c0) 6 r rfl (keep hB c0h) ta23 rfl rfl fun r=>kL (I c1) r rfl (keep hB c1h) to3 rfl rfl fun r=>kL (I c2) r rfl (keep hB c2h) to3 rfl rfl fun r=>kL (I c3) r rfl (keep hB c3h) to3 rfl rfl fun r=>kL (I c4) r rfl (keep hB c4h) to3 rfl rfl fun r=>kM (U a0) r rfl rfl fun r=>?_));have hF1:=aQ hF hB b1
 refine kD r ((AV (k:=j) (n:=n) kw) (kW F w0 w2 b1) _ hF1 c0 c1 c2 c3 c4 a0 yaw) rfl wH rfl fun w4 v5 hb hr6 r=>?_;have zw4:=hb.size
 have hb1:=keep hb hb1;obtain ⟨hB,zB⟩:=bon hb hB;refine kP r hr6.shape rfl rfl hb1 eI rfl rfl fun w7 u8 r=>?_;have zw7:=u8.size
 have hb1:=u8.at_;obtain ⟨hB,zB⟩:=u8.on hB kw
 exact wn (d9 (kR r hr6 rfl rfl hb1 rfl eH hF hB u8 kw kw kw))
def D.lh (j:Nat) (a0:Plan) (a1:Int) (a2:Int) (a3:Int) (a4:Int):T Int:=(D.mS a3 (fun x=>(D.nj j a0 a1 a2 a3 a4 x)))
theorem AW (hF:kH F w0) (hj:n<j)
    (a0:Plan) (a1:Int) (a2:Int) (a3:Int) (a4:Int) (pre0:0≤a4) :
    Calls y6 247 #[u7 (ae a0),.int .i64 a1,.int .i64 a2,.int .i64 a3,.int .i64 a4] w0 (aG y6 bH n (D.lh j a0 a1 a2 a3 a4) F w0):=by
 refine kN Tryz.func247 rfl 14 rfl rfl fun fr r hB=>?_;refine wsr ?_
 refine kX 23 (u7 (ae a0)) r rfl rfl fun b1 w2 n3 r=>?_;obtain ⟨eb1,zw2,hb1,hB,zB⟩:=n3.all hB
 refine kX 3 (I a1) r rfl rfl fun b4 w5 n6 r=>?_;have hb1:=keep n6.below hb1
 obtain ⟨eb4,zw5,hb4,hB,zB⟩:=n6.all hB;refine kX 3 (I a2) r rfl rfl fun b7 w8 n9 r=>?_;have hb1:=keep n9.below hb1
 have hb4:=keep n9.below hb4;obtain ⟨eb7,zw8,hb7,hB,zB⟩:=n9.all hB;refine kX 3 (I a3) r rfl rfl fun b10 w11 n12 r=>?_;have hb1:=keep n12.below hb1
 have hb4:=keep n12.below hb4;have hb7:=keep n12.below hb7;obtain ⟨eb10,zw11,hb10,hB,zB⟩:=n12.all hB;refine kX 3 (I a4) r rfl rfl fun b13 w14 n15 r=>?_;have hb1:=keep n15.below hb1
 have hb4:=keep n15.below hb4;have hb7:=keep n15.below hb7;have hb10:=keep n15.below hb10;obtain ⟨eb13,zw14,hb13,hB,zB⟩:=n15.all hB;refine ah (.cells (kq bH) 271 (0,0)) r (fun R=>ag eY) rfl fun fr b16 w17 n18 r=>?_;have hb1:=keep n18.below hb1
 have hb4:=keep n18.below hb4;have hb7:=keep n18.below hb7;have hb10:=keep n18.below hb10;have hb13:=keep n18.below hb13;obtain ⟨eb16,zw17,hb16,hB,zB⟩:=n18.all hB;refine wn (wsr (kL (I a3) r rfl hb10 to3 rfl rfl fun r=>aa (.func (.func 314) #[] #[zp b1,zp b4,zp b7,zp b10,zp b13]) r (fun R=>aZ r rfl) rfl fun fr r=>?_));have hF1:=aQ hF hB b16
 have f19:((kW F w0 w17 b16)) b1:=(.inr ⟨kw,kw,kw⟩)
 have f20:((kW F w0 w17 b16)) b4:=(.inr ⟨kw,kw,kw⟩)
 have f21:((kW F w0 w17 b16)) b7:=(.inr ⟨kw,kw,kw⟩)
 have f22:((kW F w0 w17 b16)) b10:=(.inr ⟨kw,kw,kw⟩)
 have f23:((kW F w0 w17 b16)) b13:=(.inr ⟨kw,kw,kw⟩)
 refine kD r (sN (F:=(kW F w0 w17 b16)) (n:=n) hF1 a3 ⟨314,[],[zp b1,zp b4,zp b7,zp b10,zp b13],Ff,rfl,fun m hm x w' hs hz=>Ai (j:=j) (fun b hb=>q8 (hF1 b hb) hz) kw a0 f19 (hs.at_ f19 hb1) a1 f20 (hs.at_ f20 hb4) a2 f21 (hs.at_ f21 hb7) a3 f22 (hs.at_ f22 hb10) a4 f23 (hs.at_ f23 hb13) x yaw⟩) rfl xu rfl fun w24 v25 hb hr26 r=>?_;have zw24:=hb.size
 have hb1:=keep hb hb1;have hb4:=keep hb hb4;have hb7:=keep hb hb7;have hb10:=keep hb hb10;have hb13:=keep hb hb13;have hb16:=keep hb hb16;obtain ⟨hB,zB⟩:=bon hb hB;refine kP r hr26.shape rfl rfl hb16 eI rfl rfl fun w27 u28 r=>?_;have zw27:=u28.size
 have hb1:=u28.keep hb1 kw
 have hb4:=u28.keep hb4 kw
 have hb7:=u28.keep hb7 kw
 have hb10:=u28.keep hb10 kw
 have hb13:=u28.keep hb13 kw
 have hb16:=u28.at_;obtain ⟨hB,zB⟩:=u28.on hB kw
 exact wn (d9 (kR r hr26 rfl rfl hb16 rfl eH hF hB u28 kw kw kw))
def D.kY (GS:Plan→Int→Int→T Unit) (c0:Plan) (c1:Int) (c2:Int):T Unit:=(GS c0 c1 (IntKind.i64.wrap (c2+1)))
def D.gu (GS:Plan→Int→Int→T Unit) (a0:Plan) (a1:Int) (a2:Int):T Unit:=(bif (a2==3) then D.nn else (T.bind (D.fk a0 a1 a2 (-1)) (fun _=>(D.kY GS a0 a1 a2))))
def D.gF:Nat→Plan→Int→Int→T Unit
 | 0,_,_,_=>.cut
 | k+1,a0,a1,a2=>D.gu (D.gF k) a0 a1 a2
def pA (r:Plan→Int→Int→T Unit) (n:Nat):Prop:=∀ (F:Nat→Prop) (w0:World),(∀ b,F b→b<w0.heap.size)→∀ (a0:Plan) (a1:Int) (a2:Int),Calls y6 304 #[u7 (ae a0),.int .i64 a1,.int .i64 a2] w0 (aG y6 aD n (r a0 a1 a2) F w0)
theorem Ah {GS:Plan→Int→Int→T Unit} (hF:kH F w0) (Hm:∀ m,m≤n→pA GS m)
    (c0:Plan) {c0b:Nat} (c0F:F c0b) (c0h:w0.heap[c0b]?=some (.cells ((ae c0)).toArray 23 (0,0))) (c1:Int) {c1b:Nat} (c1F:F c1b) (c1h:w0.heap[c1b]?=some (.cells ([(.int .i64 c1)]).toArray 3 (0,0))) (c2:Int) {c2b:Nat} (c2F:F c2b) (c2h:w0.heap[c2b]?=some (.cells ([(.int .i64 c2)]).toArray 3 (0,0))) :
    Calls y6 353 #[.agg #[],zp c0b,zp c1b,zp c2b] w0 (aG y6 aD n (D.kY GS c0 c1 c2) F w0):=by
 refine kN Tryz.func353 rfl 11 rfl rfl fun fr r hB=>?_;have lc0b:=q7 c0h
 have lc1b:=q7 c1h;have lc2b:=q7 c2h;refine wsr ?_;refine kX 128 (.agg #[]) r rfl rfl fun b1 w2 n3 r=>?_;obtain ⟨eb1,zw2,hb1,hB,zB⟩:=n3.all hB
 refine ah (.cells (kq aD) 133 (0,0)) r (fun R=>ag dA) rfl fun fr b4 w5 n6 r=>?_;have hb1:=keep n6.below hb1
 obtain ⟨eb4,zw5,hb4,hB,zB⟩:=n6.all hB;refine wn (wsr (kG (ae c0) 6 r rfl (keep hB c0h) ta23 rfl rfl fun r=>kL (I c1) r rfl (keep hB c1h) to3 rfl rfl fun r=>kL (I c2) r rfl (keep hB c2h) to3 rfl rfl fun r=>kB r rfl rfl rfl rfl rfl fun r=>?_));have hF1:=aQ hF hB b4
 refine kD r ((Hm n kw) (kW F w0 w5 b4) _ hF1 c0 c1 (W (c2+1))) rfl wI rfl fun w7 v8 hb hr9 r=>?_;have zw7:=hb.size
 have hb1:=keep hb hb1;have hb4:=keep hb hb4;obtain ⟨hB,zB⟩:=bon hb hB;refine kP r hr9.shape rfl rfl hb4 cX rfl rfl fun w10 u11 r=>?_;have zw10:=u11.size
 have hb1:=u11.keep hb1 kw
 have hb4:=u11.at_;obtain ⟨hB,zB⟩:=u11.on hB kw
 exact wn (d9 (kR r hr9 rfl rfl hb4 rfl cT hF hB u11 kw kw kw))
theorem Be {n:Nat} {F:Nat→Prop} {GS:Plan→Int→Int→T Unit} {w0:World} (hF:∀ b,F b→b<w0.heap.size) (Hm:∀ m,m<n→pA GS m)
    (a0:Plan) (a1:Int) (a2:Int) :
    Calls y6 304 #[u7 (ae a0),.int .i64 a1,.int .i64 a2] w0 (aG y6 aD n (D.gu GS a0 a1 a2) F w0):=by
 refine kN Tryz.func304 rfl 17 rfl rfl fun fr r hB=>?_;refine wsr ?_
 refine kX 23 (u7 (ae a0)) r rfl rfl fun b1 w2 n3 r=>?_;obtain ⟨eb1,zw2,hb1,hB,zB⟩:=n3.all hB
 refine kX 3 (I a1) r rfl rfl fun b4 w5 n6 r=>?_;have hb1:=keep n6.below hb1
 obtain ⟨eb4,zw5,hb4,hB,zB⟩:=n6.all hB;refine kX 3 (I a2) r rfl rfl fun b7 w8 n9 r=>?_;have hb1:=keep n9.below hb1
 have hb4:=keep n9.below hb4;obtain ⟨eb7,zw8,hb7,hB,zB⟩:=n9.all hB;refine ah (.cells (kq aD) 133 (0,0)) r (fun R=>ag dA) rfl fun fr b10 w11 n12 r=>?_;have hb1:=keep n12.below hb1
 have hb4:=keep n12.below hb4;have hb7:=keep n12.below hb7;obtain ⟨eb10,zw11,hb10,hB,zB⟩:=n12.all hB;refine wn (a9 (wsr (kL (I a2) r rfl hb7 to3 rfl rfl fun r=>kB r rfl rfl rfl rfl rfl fun r=>wn ?_)));refine q4 (t:=(a2==3)) (r.ev rfl) (fun h13=>?_) (fun h13=>?_)
 ·
  refine wsr (kU (.agg #[]) r kz rfl fun r=>?_);have hF1:=aQ hF hB b10
  refine kD r (sU (F:=(kW F w0 w11 b10)) (n:=n) hF1 ) rfl xV rfl fun w14 v15 hb hr16 r=>?_;have zw14:=hb.size
  have hb1:=keep hb hb1;have hb4:=keep hb hb4;have hb7:=keep hb hb7;have hb10:=keep hb hb10;obtain ⟨hB,zB⟩:=bon hb hB;refine kP r hr16.shape rfl rfl hb10 cX rfl rfl fun w17 u18 r=>?_;have zw17:=u18.size
  have hb1:=u18.keep hb1 kw
  have hb4:=u18.keep hb4 kw
  have hb7:=u18.keep hb7 kw
  have hb10:=u18.at_;obtain ⟨hB,zB⟩:=u18.on hB kw
  refine wn (d9 ?_);have hd:D.gu GS a0 a1 a2=D.nn:=(ar h13).trans (rfl);have hs:=hr16.shape.cells;refine ak r rfl rfl hb10 (k:=6) hs.1 cT ?_;rw [←hs.2.2,hd];exact rfin hF hB hr16 u18 kw kw kw
 refine q6 (wsr (kG (ae a0) 6 r rfl hb1 ta23 rfl rfl fun r=>kL (I a1) r rfl hb4 to3 rfl rfl fun r=>kL (I a2) r rfl hb7 to3 rfl rfl fun r=>?_));have hF1:=aQ hF hB b10
 refine kD r (qg (F:=(kW F w0 w11 b10)) (n:=n) hF1 a0 a1 a2 (-1)) rfl rq rfl fun w19 v20 hb hr21 r=>?_;have zw19:=hb.size
 have hb1:=keep hb hb1;have hb4:=keep hb hb4;have hb7:=keep hb hb7;have hb10:=keep hb hb10;obtain ⟨hB,zB⟩:=bon hb hB;refine aa (.func (.func 353) #[] #[zp b1,zp b4,zp b7]) r (fun R=>aZ r rfl) rfl fun fr r=>?_;have hF1:=aQ hF hB b10
 have f22:((kW F w0 w19 b10)) b1:=(.inr ⟨kw,kw,kw⟩)
 have f23:((kW F w0 w19 b10)) b4:=(.inr ⟨kw,kw,kw⟩)
 have f24:((kW F w0 w19 b10)) b7:=(.inr ⟨kw,kw,kw⟩)
 refine kD r (yw (F:=(kW F w0 w19 b10)) (n:=n) hF1 (Rep.mono yaf (Same.refl _ _) kw n _ _ hr21) ⟨353,[],[zp b1,zp b4,zp b7],FK,rfl,fun m hm _ w' hs hz=>Ah (fun b hb=>q8 (hF1 b hb) hz) (fun m' hm'=>Hm m' kw) a0 f22 (hs.at_ f22 hb1) a1 f23 (hs.at_ f23 hb4) a2 f24 (hs.at_ f24 hb7)⟩ rfl) rfl xN rfl fun w25 v26 hb hr27 r=>?_
 have zw25:=hb.size;have hb1:=keep hb hb1;have hb4:=keep hb hb4;have hb7:=keep hb hb7;have hb10:=keep hb hb10;obtain ⟨hB,zB⟩:=bon hb hB;refine kP r hr27.shape rfl rfl hb10 cX rfl rfl fun w28 u29 r=>?_;have zw28:=u29.size
 have hb1:=u29.keep hb1 kw
 have hb4:=u29.keep hb4 kw
 have hb7:=u29.keep hb7 kw
 have hb10:=u29.at_;obtain ⟨hB,zB⟩:=u29.on hB kw
 refine wn (d9 ?_);have hd:D.gu GS a0 a1 a2=(T.bind (D.fk a0 a1 a2 (-1)) (fun _=>(D.kY GS a0 a1 a2))):=(ai h13).trans (rfl)
 have hs:=hr27.shape.cells;refine ak r rfl rfl hb10 (k:=6) hs.1 cT ?_;rw [←hs.2.2,hd];exact rfin hF hB hr27 u29 kw kw kw
theorem Bb {n:Nat} {k:Nat} (hk:n<k):pA (D.gF k) n:=by
 induction n using Nat.strongRecOn generalizing k with
 | _ n ih=>
  obtain ⟨k,rfl⟩:∃ q,k=q+1:=⟨k - 1,kw⟩
  intro F w0 hF;have h:=@Be n F (D.gF k) w0 hF (fun m hm=>ih m hm kw)
  exact h
def D.nG (j:Nat) (a0:Plan) (a1:Int):T Unit:=(D.gF j a0 a1 0)
theorem tA (hF:kH F w0) (hj:n<j)
    (a0:Plan) (a1:Int) :
    Calls y6 238 #[u7 (ae a0),.int .i64 a1] w0 (aG y6 aD n (D.nG j a0 a1) F w0):=by
 refine kN Tryz.func238 rfl 8 rfl rfl fun fr r hB=>?_;refine wsr ?_
 refine kX 23 (u7 (ae a0)) r rfl rfl fun b1 w2 n3 r=>?_;obtain ⟨eb1,zw2,hb1,hB,zB⟩:=n3.all hB
 refine ah (.cells (kq aD) 133 (0,0)) r (fun R=>ag dA) rfl fun fr b4 w5 n6 r=>?_;have hb1:=keep n6.below hb1
 obtain ⟨eb4,zw5,hb4,hB,zB⟩:=n6.all hB;refine wn (wsr (kG (ae a0) 6 r rfl hb1 ta23 rfl rfl fun r=>kM (I a1) r rfl rfl fun r=>?_));have hF1:=aQ hF hB b4
 refine kD r ((Bb (k:=j) (n:=n) kw) (kW F w0 w5 b4) _ hF1 a0 a1 0) rfl wI rfl fun w7 v8 hb hr9 r=>?_;have zw7:=hb.size
 have hb1:=keep hb hb1;have hb4:=keep hb hb4;obtain ⟨hB,zB⟩:=bon hb hB;refine kP r hr9.shape rfl rfl hb4 cX rfl rfl fun w10 u11 r=>?_;have zw10:=u11.size
 have hb1:=u11.keep hb1 kw
 have hb4:=u11.at_;obtain ⟨hB,zB⟩:=u11.on hB kw
 exact wn (d9 (kR r hr9 rfl rfl hb4 rfl cT hF hB u11 kw kw kw))
end
theorem GI:af y6 115:=kz
theorem cl19:af y6 19:=kz
theorem cl65:af y6 65:=kz
theorem xJ:sized y6 128 0:=kz
theorem ts36:sized y6 36 2:=kz
theorem xO:zeroOf y6 128=some (.agg #[]):=kz
theorem tz36:zeroOf y6 36=some (u7 (resC (⟨0,0⟩:Res))):=kz
def D.p7 (fu:Nat) (a0:Nat × T Unit) (a1:Mem) (a2:Cap):Option ((Nat × T Unit) × Bool × Mem):=(bif a0.2.bA then (some (a0,false,a1)) else ((D.gD fu a1 a2 (T.acc a0.2)).bind (fun (x16:Int × Bool × Mem)=>(bif (!x16.2.1) then (some (a0,false,x16.2.2)) else ((depthI a0.1).bind (fun (x26:Nat)=>(some ((x26,T.next a0.2 x16.1),true,x16.2.2))))))))
theorem yT {fu:Nat} (w0:World) {a0v:Value} {a0F:List Nat} (a0:Nat × T Unit) {a1g:MG} (a1:Mem) (a2:Cap) (hS:Sep [bR y6 aD a0 a0v a0F,memK a1g a1] w0) {res:(Nat × T Unit) × Bool × Mem} (hD:D.p7 fu a0 a1 a2=some res) :
    Calls y6 115 #[a0v,zp a1g.mb,u7 (capC a2)] w0 (fun e w'=>∃ (v0:Value) (F0:List Nat),e=.returned (.tuple #[v0,(.bool res.2.1)])∧Done (fun b=>b∈(memK a1g a1).own) (fun b=>b∈a0F) [memK a1g res.2.2,bR y6 aD res.1 v0 F0] w0 w'):=by
 refine enter Tryz.func115 rfl 28 rfl rfl fun fr r=>?_;have hP:Post (fun b=>b∈(memK a1g a1).own) [bR y6 aD a0 a0v a0F,memK a1g a1] w0 w0:=.start hS (by simp [memK,bR])
 unfold D.p7 at hD
 refine wsr ?_;refine kX 133 a0v r rfl rfl fun b1 w2 n3 r=>?_;have hP:Post (fun b=>b∈(memK a1g a1).own) [bR y6 aD a0 a0v a0F,memK a1g a1,ac b1 a0v.cells 133] w0 w2:=hP.new n3
 refine kX 52 (u7 (capC a2)) r rfl rfl fun b5 w6 n7 r=>?_;have hP:Post (fun b=>b∈(memK a1g a1).own) [bR y6 aD a0 a0v a0F,memK a1g a1,ac b1 a0v.cells 133,ac b5 ((capC a2)).toArray 52] w0 w6:=hP.new n7
 refine ah (.cells (kq aD) 133 (0,0)) r (fun R=>ag dA) rfl fun fr b9 w10 n11 r=>?_;have hP:Post (fun b=>b∈(memK a1g a1).own) [bR y6 aD a0 a0v a0F,memK a1g a1,ac b1 a0v.cells 133,ac b5 ((capC a2)).toArray 52,ac b9 (kq aD) 133] w0 w10:=hP.new n11
 refine kA (.bool false) r rfl rfl fun r=>wn (a9 (wsr (aa _ r (fun R=>az r (b:=b1) (o:=0) (k:=0) rfl eU) rfl fun fr r=>kL (.bool a0.2.bA) r rfl (hP.cell (i:=2) rfl) to4 (Rep.jK (hP.prog (i:=0) rfl)) rfl fun r=>wn ?_)));refine q4 (t:=a0.2.bA) (r.ev rfl) (fun h13=>?_) (fun h13=>?_)
 ·
  have hD:=(ar h13).symm.trans hD;refine wsr (aa a0v r (fun R=>gS r (hP.prog (i:=0) rfl).shape rfl (hP.cell (i:=2) rfl) cT) rfl fun fr r=>?_);refine kP r (hP.prog (i:=0) rfl).shape rfl rfl (hP.cell (i:=4) rfl) cX rfl rfl fun w14 u15 r=>?_
  have hP:Post (fun b=>b∈(memK a1g a1).own) [bR y6 aD a0 a0v a0F,memK a1g a1,ac b1 a0v.cells 133,ac b5 ((capC a2)).toArray 52,ac b9 a0v.cells 133] w0 w14:=hP.upd (i:=4) rfl u15
  refine kA (.bool false) r rfl rfl fun r=>wn (d9 ?_);have hv:(a0,false,a1)=res:=Option.some.inj hD
  try dsimp only [Exit.then,Exit.inBlock]
  have hs:=(hP.prog (i:=0) rfl).shape.cells;refine fL (fn:=Tryz.f115) r rfl rfl (v':=(.bool false)) rfl (hP.cell (i:=4) rfl) (k:=6) hs.1 cT ?_;rw [←hs.2.2];subst hv;exact ⟨a0v,a0F,rfl,(hP.pick [1,0] rfl rfl).done (dc rfl (bv (fun b h=>.inl h) cH))⟩
 have hD:=(ai h13).symm.trans hD;refine q6 (wsr (kM (zp a1g.mb) r rfl rfl fun r=>kG (capC a2) 2 r rfl (hP.cell (i:=3) rfl) ta52 rfl rfl fun r=>aa _ r (fun R=>az r (b:=b1) (o:=0) (k:=1) rfl lQ) rfl fun fr r=>kG (bk (T.acc a0.2)) 4 r rfl (hP.cell (i:=2) rfl) ta38 (Rep.wm (hP.prog (i:=0) rfl) h13) rfl fun r=>?_));obtain ⟨x16,hx16,hD⟩:=aH hD
 refine kC r (tq w10 a1 a2 (T.acc a0.2) (hP.sep.pk [1] rfl rfl) hx16) rfl cl65 rfl ?_;rintro _ w17 ⟨rfl,hq⟩;refine ⟨_,rfl,fun fr r=>?_⟩
 have hP:Post (fun b=>b∈(memK a1g a1).own) [bR y6 aD a0 a0v a0F,memK a1g x16.2.2,ac b1 a0v.cells 133,ac b5 ((capC a2)).toArray 52,ac b9 (kq aD) 133] w0 w17:=hP.setN (i:=1) rfl hq
 refine kM (.tuple #[(U x16.1),(.bool x16.2.1)]) r rfl rfl fun r=>aa (U x16.1) r (fun R=>bX r (vs:=#[(U x16.1),(.bool x16.2.1)]) rfl rfl) rfl fun fr r=>aa (.bool x16.2.1) r (fun R=>bX r (vs:=#[(U x16.1),(.bool x16.2.1)]) rfl rfl) rfl fun fr r=>kA (U x16.1) r rfl rfl fun r=>kA (.bool x16.2.1) r rfl rfl fun r=>wn (a9 (wsr (kM (.bool x16.2.1) r rfl rfl fun r=>aa (.bool (!x16.2.1)) r (fun R=>y_un r (u:=(.bool x16.2.1)) rfl rfl) rfl fun fr r=>wn ?_)));refine q4 (t:=(!x16.2.1)) (r.ev rfl) (fun h18=>?_) (fun h18=>?_)
 ·
  have hD:=(ar h18).symm.trans hD;refine wsr (aa a0v r (fun R=>gS r (hP.prog (i:=0) rfl).shape rfl (hP.cell (i:=2) rfl) cT) rfl fun fr r=>?_);refine kP r (hP.prog (i:=0) rfl).shape rfl rfl (hP.cell (i:=4) rfl) cX rfl rfl fun w19 u20 r=>?_
  have hP:Post (fun b=>b∈(memK a1g a1).own) [bR y6 aD a0 a0v a0F,memK a1g x16.2.2,ac b1 a0v.cells 133,ac b5 ((capC a2)).toArray 52,ac b9 a0v.cells 133] w0 w19:=hP.upd (i:=4) rfl u20
  refine kA (.bool false) r rfl rfl fun r=>wn (d9 ?_);have hv:(a0,false,x16.2.2)=res:=Option.some.inj hD
  try dsimp only [Exit.then,Exit.inBlock]
  have hs:=(hP.prog (i:=0) rfl).shape.cells;refine fL (fn:=Tryz.f115) r rfl rfl (v':=(.bool false)) rfl (hP.cell (i:=4) rfl) (k:=6) hs.1 cT ?_;rw [←hs.2.2];subst hv;exact ⟨a0v,a0F,rfl,(hP.pick [1,0] rfl rfl).done (dc rfl (bv (fun b h=>.inl h) cH))⟩
 have hD:=(ai h18).symm.trans hD;refine q6 (wsr (aa _ r (fun R=>az r (b:=b1) (o:=0) (k:=5) rfl lR) rfl fun fr r=>?_));obtain ⟨nf21,n122,n223,hv24,hk25⟩:=Rep.qO (hP.prog (i:=0) rfl) h13
 refine kL (kf nf21 n122 n223) r rfl (hP.cell (i:=2) rfl) m9 hv24 rfl fun r=>kM (U x16.1) r rfl rfl fun r=>?_;obtain ⟨x26,hx26,hD⟩:=aH hD
 refine cS r (hk25.at_.2 x26 (by rw [uQ hx26]; exact Nat.lt_succ_self _) x16.1 w17 (Same.refl _ _) (Nat.le_refl _)) (fun R hc=>dI r rfl rfl hk25.at_.1 hc) rfl ?_;rintro _ w27 ⟨v28,rfl,hb,hr29⟩
 refine ⟨_,rfl,fun fr r=>?_⟩
 have zw27:=hP.size;have hP:Post (fun b=>b∈(memK a1g a1).own) [bR y6 aD a0 a0v a0F,memK a1g x16.2.2,ac b1 a0v.cells 133,ac b5 ((capC a2)).toArray 52,ac b9 (kq aD) 133,bR y6 aD (x26,T.next a0.2 x16.1) v28 (a0F++rg w17.heap.size w27.heap.size)] w0 w27:=hP.addProgF (k:=0) rfl hb hr29
 refine kP r (hP.prog (i:=5) rfl).shape rfl rfl (hP.cell (i:=4) rfl) cX rfl rfl fun w31 u32 r=>?_;have hP:Post (fun b=>b∈(memK a1g a1).own) [bR y6 aD a0 a0v a0F,memK a1g x16.2.2,ac b1 a0v.cells 133,ac b5 ((capC a2)).toArray 52,ac b9 v28.cells 133,bR y6 aD (x26,T.next a0.2 x16.1) v28 (a0F++rg w17.heap.size w27.heap.size)] w0 w31:=hP.upd (i:=4) rfl u32
 refine kA (.bool true) r rfl rfl fun r=>wn (d9 ?_);have hv:((x26,T.next a0.2 x16.1),true,x16.2.2)=res:=Option.some.inj hD
 try dsimp only [Exit.then,Exit.inBlock]
 have hs:=(hP.prog (i:=5) rfl).shape.cells;refine fL (fn:=Tryz.f115) r rfl rfl (v':=(.bool true)) rfl (hP.cell (i:=4) rfl) (k:=6) hs.1 cT ?_;rw [←hs.2.2];subst hv;exact ⟨v28,(a0F++rg w17.heap.size w27.heap.size),rfl,(hP.pick [1,5] rfl rfl).done (dc rfl (bv (fun b h=>(List.mem_append.1 h).elim .inl (fun h=>.inr (by have:=(ep.1 h).1; omega))) cH))⟩
def D.nA (fu:Nat) (a0:Nat × T Unit) (a1:Mem) (a2:Cap) (a3:Int):Option (Unit × Int × Bool × Mem):=(loopThen (fun (x13:Int × Mem × (Nat × T Unit))=>(Option.bind (bif (decide (x13.1<a3)) then (some (!x13.2.2.2.bA)) else (some false)) (fun (x19:Bool)=>(bif x19 then ((D.p7 fu x13.2.2 x13.2.1 a2).bind (fun (x23:(Nat × T Unit) × Bool × Mem)=>(bif (!x23.2.1) then (some (Lp.brk (x13.1,x23.2.2,x13.2.2))) else (some (Lp.next ((IntKind.i64.wrap (x13.1+1)),x23.2.2,x23.1)))))) else (some (Lp.brk (x13.1,x13.2.1,x13.2.2))))))) fu (0,a1,a0) (fun (x37:Int × Mem × (Nat × T Unit))=>(some ((),x37.1,x37.2.2.2.bA,x37.2.1))))
theorem AE {fu:Nat} (w0:World) {a0v:Value} {a0F:List Nat} (a0:Nat × T Unit) {a1g:MG} (a1:Mem) (a2:Cap) (a3:Int) (hS:Sep [bR y6 aD a0 a0v a0F,memK a1g a1] w0) {res:Unit × Int × Bool × Mem} (hD:D.nA fu a0 a1 a2 a3=some res) :
    Calls y6 61 #[a0v,zp a1g.mb,u7 (capC a2),.int .i64 a3] w0 (fun e w'=>e=.returned (.tuple #[(.agg #[]),(.int .i64 res.2.1),(.bool res.2.2.1)])∧Done (fun b=>b∈(memK a1g a1).own) No [memK a1g res.2.2.2] w0 w'):=by
 refine enter Tryz.func61 rfl 39 rfl rfl fun fr r=>?_;have hP:Post (fun b=>b∈(memK a1g a1).own) [bR y6 aD a0 a0v a0F,memK a1g a1] w0 w0:=.start hS (by simp [memK,bR])
 unfold D.nA at hD
 refine wsr ?_;refine kX 133 a0v r rfl rfl fun b1 w2 n3 r=>?_;have hP:Post (fun b=>b∈(memK a1g a1).own) [bR y6 aD a0 a0v a0F,memK a1g a1,ac b1 a0v.cells 133] w0 w2:=hP.new n3
 refine kX 52 (u7 (capC a2)) r rfl rfl fun b5 w6 n7 r=>?_;have hP:Post (fun b=>b∈(memK a1g a1).own) [bR y6 aD a0 a0v a0F,memK a1g a1,ac b1 a0v.cells 133,ac b5 ((capC a2)).toArray 52] w0 w6:=hP.new n7
 refine ah (.cells #[] 128 (0,0)) r (fun R=>ag xO) rfl fun fr b9 w10 n11 r=>?_;have hP:Post (fun b=>b∈(memK a1g a1).own) [bR y6 aD a0 a0v a0F,memK a1g a1,ac b1 a0v.cells 133,ac b5 ((capC a2)).toArray 52,ac b9 #[] 128] w0 w10:=hP.new n11
 refine kA (I 0) r rfl rfl fun r=>kA (.bool false) r rfl rfl fun r=>wn (wsr (kA (I 0) r rfl rfl fun r=>wn (a9 ?_)));refine ee (X:=Int × Mem × (Nat × T Unit)) (G:=Value × List Nat) (x0:=(0,a1,a0)) (fun x γ=>[(0,a0v),(1,(zp a1g.mb)),(2,(u7 (capC a2))),(3,(I a3)),(4,(zp b1)),(6,(zp b5)),(8,(zp b9)),(9,(I 0)),(10,(.bool false)),(11,(I x.1))]) (fun x γ w=>Post (fun b=>b∈(memK a1g a1).own) [bR y6 aD x.2.2 γ.1 γ.2,memK a1g x.2.1,ac b1 γ.1.cells 133,ac b5 ((capC a2)).toArray 52,ac b9 #[] 128] w0 w) (a0v,a0F) r (kO (kO (au rfl (au rfl aI)))) hP hD ?_ ?_
 ·
  rintro x13 γ14 fr w16 g y15 RPy15 nxy15 bky15 rty15 r hP hD;have hP:Post (fun b=>b∈(memK a1g a1).own) [bR y6 aD x13.2.2 γ14.1 γ14.2,memK a1g x13.2.1,ac b1 γ14.1.cells 133,ac b5 ((capC a2)).toArray 52,ac b9 #[] 128] w0 w16:=hP
  refine a9 (a9 ?_);refine cQ (N:=39) (Y:=Bool) (G:=Unit) (fun x γ=>[(0,a0v),(1,(zp a1g.mb)),(2,(u7 (capC a2))),(3,(I a3)),(4,(zp b1)),(6,(zp b5)),(8,(zp b9)),(9,(I 0)),(10,(.bool false)),(11,(I x13.1)),(21,(.bool x))]) (fun x γ w=>Post (fun b=>b∈(memK a1g a1).own) [bR y6 aD x13.2.2 γ14.1 γ14.2,memK a1g x13.2.1,ac b1 γ14.1.cells 133,ac b5 ((capC a2)).toArray 52,ac b9 #[] 128] w0 w) hD ?_ ?_
  ·
   rintro y17 RPy17 nxy17 hD;refine q5 (kM (I x13.1) r rfl rfl fun r=>kM (I a3) r rfl rfl fun r=>kB r rfl rfl rfl rfl rfl fun r=>kM (.bool (decide (x13.1<a3))) r rfl rfl fun r=>?_);refine bE (decide (x13.1<a3)) (fun h18=>?_) (fun h18=>?_)
   ·
    have hD:=(ar h18).symm.trans hD;refine s1 r h18 (aa _ r (fun R=>az r (b:=b1) (o:=0) (k:=0) rfl eU) rfl fun fr r=>s1 r h18 (kL (.bool x13.2.2.2.bA) r rfl (hP.cell (i:=2) rfl) to4 (Rep.jK (hP.prog (i:=0) rfl)) rfl fun r=>s1 r h18 (aa (.bool (!x13.2.2.2.bA)) r (fun R=>y_un r (u:=(.bool x13.2.2.2.bA)) rfl rfl) rfl fun fr r=>aa (.bool (!x13.2.2.2.bA)) r (fun R=>ax r (b:=true) (kb h18) rfl) rfl fun fr r=>wn ?_)));exact nxy17 (!x13.2.2.2.bA) () _ _ _ hD r (kO (kO (au rfl (au rfl (au rfl aI))))) (hP.pick [0,1,2,3,4] rfl rfl)
   have hD:=(ai h18).symm.trans hD;refine s0 r h18 fun fr r=>s0 r h18 fun fr r=>s0 r h18 fun fr r=>aa (.bool false) r (fun R=>ax r (b:=false) (kb h18) rfl) rfl fun fr r=>wn ?_;exact nxy17 false () _ _ _ hD r (kO (kO (au rfl (au rfl (au rfl aI))))) (hP.pick [0,1,2,3,4] rfl rfl)
  rintro x19 γ20 fr w21 g r hP hD;have hP:Post (fun b=>b∈(memK a1g a1).own) [bR y6 aD x13.2.2 γ14.1 γ14.2,memK a1g x13.2.1,ac b1 γ14.1.cells 133,ac b5 ((capC a2)).toArray 52,ac b9 #[] 128] w0 w21:=hP
  refine q4 (t:=x19) (r.ev rfl) (fun h22=>?_) (fun h22=>?_)
  ·
   have hD:=(ar h22).symm.trans hD;refine q6 (wp_block (wsr (aa γ14.1 r (fun R=>gS r (hP.prog (i:=0) rfl).shape rfl (hP.cell (i:=2) rfl) cT) rfl fun fr r=>kM (zp a1g.mb) r rfl rfl fun r=>kG (capC a2) 2 r rfl (hP.cell (i:=3) rfl) ta52 rfl rfl fun r=>?_)));obtain ⟨x23,hx23,hD⟩:=aH hD
   refine kC r (yT w21 x13.2.2 x13.2.1 a2 (hP.sep.pk [0,1] rfl rfl) hx23) rfl GI rfl ?_;rintro _ w24 ⟨v25,F26,rfl,hq⟩;refine ⟨_,rfl,fun fr r=>?_⟩
   have hP:Post (fun b=>b∈(memK a1g a1).own) [bR y6 aD x13.2.2 γ14.1 γ14.2,memK a1g x23.2.2,ac b1 γ14.1.cells 133,ac b5 ((capC a2)).toArray 52,ac b9 #[] 128,bR y6 aD x23.1 v25 F26] w0 w24:=hP.setR (i:=1) (k:=0) rfl rfl rfl hq
   refine kM (.tuple #[v25,(.bool x23.2.1)]) r rfl rfl fun r=>aa v25 r (fun R=>bX r (vs:=#[v25,(.bool x23.2.1)]) rfl rfl) rfl fun fr r=>aa (.bool x23.2.1) r (fun R=>bX r (vs:=#[v25,(.bool x23.2.1)]) rfl rfl) rfl fun fr r=>?_;refine ah (.cells (kq aD) 133 (0,0)) r (fun R=>ag dA) rfl fun fr b28 w29 n30 r=>?_
   have hP:Post (fun b=>b∈(memK a1g a1).own) [bR y6 aD x13.2.2 γ14.1 γ14.2,memK a1g x23.2.2,ac b1 γ14.1.cells 133,ac b5 ((capC a2)).toArray 52,ac b9 #[] 128,bR y6 aD x23.1 v25 F26,ac b28 (kq aD) 133] w0 w29:=hP.new n30
   refine kP r (hP.prog (i:=5) rfl).shape rfl rfl (hP.cell (i:=6) rfl) cX rfl rfl fun w32 u33 r=>?_;have hP:Post (fun b=>b∈(memK a1g a1).own) [bR y6 aD x13.2.2 γ14.1 γ14.2,memK a1g x23.2.2,ac b1 γ14.1.cells 133,ac b5 ((capC a2)).toArray 52,ac b9 #[] 128,bR y6 aD x23.1 v25 F26,ac b28 v25.cells 133] w0 w32:=hP.upd (i:=6) rfl u33
   refine kA (.bool x23.2.1) r rfl rfl fun r=>wn (a9 (wsr (kM (.bool x23.2.1) r rfl rfl fun r=>aa (.bool (!x23.2.1)) r (fun R=>y_un r (u:=(.bool x23.2.1)) rfl rfl) rfl fun fr r=>wn ?_)));refine q4 (t:=(!x23.2.1)) (r.ev rfl) (fun h34=>?_) (fun h34=>?_)
   ·
    have hD:=(ar h34).symm.trans hD;refine wp_exit ?_;exact bky15 (x13.1,x23.2.2,x13.2.2) (γ14.1,γ14.2) _ _ _ hD r (kO (kO (au rfl (au rfl aI)))) (hP.pick [0,1,2,3,4] rfl rfl)
   have hD:=(ai h34).symm.trans hD;refine q6 (wsr (aa v25 r (fun R=>gS r (hP.prog (i:=5) rfl).shape rfl (hP.cell (i:=6) rfl) cT) rfl fun fr r=>?_));refine kP r (hP.prog (i:=5) rfl).shape rfl rfl (hP.cell (i:=2) rfl) cX (by have h:=(hP.prog (i:=0) rfl).shape.cells.1; simpa using h) rfl fun w35 u36 r=>?_
   have hP:Post (fun b=>b∈(memK a1g a1).own) [bR y6 aD x13.2.2 γ14.1 γ14.2,memK a1g x23.2.2,ac b1 v25.cells 133,ac b5 ((capC a2)).toArray 52,ac b9 #[] 128,bR y6 aD x23.1 v25 F26,ac b28 v25.cells 133] w0 w35:=hP.upd (i:=2) rfl u36
   refine wn ?_;refine q5 (kM (I x13.1) r rfl rfl fun r=>kB r rfl rfl rfl rfl rfl fun r=>kA (I (W (x13.1+1))) r rfl rfl fun r=>wn ?_);exact nxy15 ((W (x13.1+1)),x23.2.2,x23.1) (v25,F26) _ _ _ hD r (kO (kO (au rfl (au rfl aI)))) (hP.pick [5,1,2,3,4] rfl rfl)
  have hD:=(ai h22).symm.trans hD;refine wp_exit ?_;exact bky15 (x13.1,x13.2.1,x13.2.2) (γ14.1,γ14.2) _ _ _ hD r (kO (kO (au rfl (au rfl aI)))) (hP.pick [0,1,2,3,4] rfl rfl)
 rintro x37 γ38 fr w39 g r hP hD;have hP:Post (fun b=>b∈(memK a1g a1).own) [bR y6 aD x37.2.2 γ38.1 γ38.2,memK a1g x37.2.1,ac b1 γ38.1.cells 133,ac b5 ((capC a2)).toArray 52,ac b9 #[] 128] w0 w39:=hP
 refine a9 ?_;refine jD [b9] [.pred (fun v _ _ _=>∃ sp,v=.pointer (some ⟨b1,1,sp⟩)) (fun _ _ _ _ _ h _=>h),.val (.agg #[]),.val (I x37.1),.val (zp b1),.val (.bool x37.2.2.2.bA),.eff (EffP w39.heap.size (ac b9 #[] 128) (fun _:Unit=>undef) (fun _:Unit=>[])) (EffP.st _ _ _ _),.val (I x37.1),.val (.bool x37.2.2.2.bA)] mixed r (fun b hb=>hP.sep.lt (i:=4) rfl (.inl hb)) kz ?_ ?_
 ·
  refine cx r rfl kz (fun fr1 g w' hb' hd r'=>?_) ?_
  · exact ld r' rfl m4 ((hP.below (dr hb')).cell (i:=2) rfl) (fun sp=>⟨Below.refl _ _,sp,rfl⟩)
  refine cx r rfl kz (fun fr1 g w' hb' hd r'=>?_) ?_
  · obtain ⟨sp,hsp⟩:=(hd 0 rfl).1; exact ll r' hsp iY bz
  refine aO r rfl (fun fr1 g w' hk' hd r'=>?_) ?_
  · exact ay r' (v:=(I x37.1)) rfl bz
  refine aO r rfl (fun fr1 g w' hk' hd r'=>?_) ?_
  · exact az r' (b:=b1) (o:=0) (k:=0) rfl eU bz
  refine aO r rfl (fun fr1 g w' hk' hd r'=>?_) ?_
  · exact av r' (v:=(.bool x37.2.2.2.bA)) (hd 3 rfl).1 (hP.cellK (j:=4) rfl (drK hk') (i:=2) rfl rfl) to4 (Rep.jK (show Rep _ _ _ _ _ _ _ from hP.okK (j:=4) rfl (drK hk') (i:=0) rfl rfl)) bz
  refine cx r rfl kz (fun fr1 g w' hb' hd r'=>?_) ?_
  · exact bb r' (o:=0) (v:=(.agg #[])) rfl (hd 1 rfl).1 ((hP.below (dr hb')).cell (i:=4) rfl) xJ r9 rfl rfl (fun w2 u2=>⟨u2.kept,(),rfl,u2.at_,(fun b hb=>hP.sep.lt (i:=4) rfl hb),lB⟩)
  refine aO r rfl (fun fr1 g w' hk' hd r'=>?_) ?_
  · exact cF r' (v:=(I x37.1)) (hd 2 rfl).1 bz
  refine aO r rfl (fun fr1 g w' hk' hd r'=>?_) ?_
  · exact cF r' (v:=(.bool x37.2.2.2.bA)) (hd 4 rfl).1 bz
  exact bS
 intro fr gg w40 hb hΦ hap r;obtain ⟨⟨⟩,g5,hcE,_,hs5⟩:=(hΦ 5 rfl).1;have r:=r.congr (sc ((hΦ 7 rfl).1) (sc ((hΦ 6 rfl).1) (sc ((hΦ 4 rfl).1) (sc ((hΦ 3 rfl).1) (sc ((hΦ 2 rfl).1) (sc ((hΦ 1 rfl).1) (sc rfl rfl)))))));have hP:Post (fun b=>b∈(memK a1g a1).own) [bR y6 aD x37.2.2 γ38.1 γ38.2,memK a1g x37.2.1,ac b1 γ38.1.cells 133,ac b5 ((capC a2)).toArray 52,ac b9 #[] 128] w0 w40:=hP.effL (i:=4) (l:=[]) rfl hb hcE rfl rfl trivial
 refine d9 ?_;have hv:((),x37.1,x37.2.2.2.bA,x37.2.1)=res:=Option.some.inj hD
 try dsimp only [Exit.then,Exit.inBlock]
 refine ny (fn:=Tryz.f61) r rfl rfl (v':=(I x37.1)) (v2:=(.bool x37.2.2.2.bA)) rfl rfl (hP.cell (i:=4) rfl) (k:=0) rfl iY ?_;subst hv;exact ⟨rfl,(hP.pick [1] rfl rfl).done (dc rfl cH)⟩
def D.pq (fu:Nat) (a0:Nat × T Res) (a1:Mem) (a2:Cap):Option ((Nat × T Res) × Bool × Mem):=(bif a0.2.bA then (some (a0,false,a1)) else ((D.gD fu a1 a2 (T.acc a0.2)).bind (fun (x16:Int × Bool × Mem)=>(bif (!x16.2.1) then (some (a0,false,x16.2.2)) else ((depthI a0.1).bind (fun (x26:Nat)=>(some ((x26,T.next a0.2 x16.1),true,x16.2.2))))))))
def D.jn (fu:Nat) (a0:Nat × T Res) (a1:Mem) (a2:Cap) (a3:Int):Option (Res × Int × Bool × Mem):=(loopThen (fun (x13:Int × Mem × (Nat × T Res))=>(Option.bind (bif (decide (x13.1<a3)) then (some (!x13.2.2.2.bA)) else (some false)) (fun (x19:Bool)=>(bif x19 then ((D.pq fu x13.2.2 x13.2.1 a2).bind (fun (x23:(Nat × T Res) × Bool × Mem)=>(bif (!x23.2.1) then (some (Lp.brk (x13.1,x23.2.2,x13.2.2))) else (some (Lp.next ((IntKind.i64.wrap (x13.1+1)),x23.2.2,x23.1)))))) else (some (Lp.brk (x13.1,x13.2.1,x13.2.2))))))) fu (0,a1,a0) (fun (x37:Int × Mem × (Nat × T Res))=>(some ((T.res (⟨0,0⟩:Res) x37.2.2.2),x37.1,x37.2.2.2.bA,x37.2.1))))
end Go.Proofs.YtbbipmelhmgmfaaGreat
