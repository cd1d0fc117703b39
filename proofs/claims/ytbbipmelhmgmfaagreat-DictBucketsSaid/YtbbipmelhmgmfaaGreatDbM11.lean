/- Some of our texts, one behind the other. -/
import Derived.Test.YtbbipmelhmgmfaaGreatDbM10
import Derived.Test.YtbbipmelhmgmfaaGreatDbMems
set_option linter.all false
set_option maxRecDepth 100000
set_option maxHeartbeats 20000000
/- Ours. -/
namespace Go.Proofs.YtbbipmelhmgmfaaGreat
open Go.RowKit
section
variable {n : Nat} {F : Nat → Prop} {j : Nat} {w0 : World}
theorem zrh:zp7 ar 229:=kz
theorem zrH:zp7 ar 302:=kz
theorem zrP:zp7 ar 303:=kz
theorem zsq:zp7 ar 304:=kz
theorem zsf:zp7 ar 313:=kz
theorem zsM:zp7 ar 314:=kz
theorem zrs:zp7 ar 315:=kz
theorem ztW:zp7 ar 353:=kz
theorem zsb:zp7 ar 359:=kz
theorem ztM:zp7 ar 361:=kz
theorem ztZ:zp7 ar 362:=kz
theorem zrS:zp7 ar 380:=kz
theorem zrU:zp7 ar 395:=kz
theorem zul:zp7 ar 396:=kz
theorem zu0:zp7 ar 397:=kz
def D.zdA (a0:Int):Int:=(IntKind.u64.wrap (IntKind.i64.wrap (a0+1)))
theorem zhZ (w0:World) 
    (a0:Int) :
    Calls ar 303 #[.int .i64 a0] w0 (zpo (.int .u64 (D.zdA a0)) w0):=by
 refine kN Tryz.func303 rfl 6 rfl rfl fun fr r hB=>?_;refine wsr (kA (U 0) r rfl rfl fun r=>wn (wsr (kM (I a0) r rfl rfl fun r=>kB r rfl rfl rfl rfl rfl fun r=>za0 (U (V (W (a0+1)))) r (fun R=>zb6 r rfl ti3 ti34) rfl fun fr r=>kA (U (V (W (a0+1)))) r rfl rfl fun r=>wn (ac ?_))))
 refine zaC r rfl rfl ?_;exact ⟨rfl,hB⟩
def D.zbI (aD:Plan→Int→Int→T Bool) (c0:Int) (c1:Plan) (c2:Int) (a0:Int):T Bool:=(bif (a0==(D.zdA c0)) then (D.zdj true) else (aD c1 c0 (IntKind.i64.wrap (c2+1))))
def D.zbg (aD:Plan→Int→Int→T Bool) (a0:Plan) (a1:Int) (a2:Int):T Bool:=(bif (a2==(IntKind.i64.wrap (a0.threads * 3))) then (D.zdj false) else (D.zfo (D.zbn a0 (IntKind.i64.wrap (a2.tdiv 3)) (a2.tmod 3)) (fun x=>(D.zbI aD a1 a0 a2 x))))
def D.zbE:Nat→Plan→Int→Int→T Bool
 | 0,_,_,_=>.cut
 | k+1,a0,a1,a2=>D.zbg (D.zbE k) a0 a1 a2
def zeH (r:Plan→Int→Int→T Bool) (n:Nat):Prop:=∀ (F:Nat→Prop) (w0:World),(∀ b,F b→b<w0.heap.size)→∀ (a0:Plan) (a1:Int) (a2:Int),Calls ar 380 #[aq (zp8 a0),.int .i64 a1,.int .i64 a2] w0 (zpg ar zpy n (r a0 a1 a2) F w0)
theorem zjV {aD:Plan→Int→Int→T Bool} (hF:kH F w0) (aS:∀ m,m≤n→zeH aD m)
    (c0:Int) {c0b:Nat} (c0F:F c0b) (c0h:w0.heap[c0b]?=some (.cells ([(.int .i64 c0)]).toArray 3 (0,0))) (c1:Plan) {c1b:Nat} (c1F:F c1b) (c1h:w0.heap[c1b]?=some (.cells ((zp8 c1)).toArray 23 (0,0))) (c2:Int) {c2b:Nat} (c2F:F c2b) (c2h:w0.heap[c2b]?=some (.cells ([(.int .i64 c2)]).toArray 3 (0,0))) (a0:Int) :
    Calls ar 397 #[.int .u64 a0,zp c0b,zp c1b,zp c2b] w0 (zpg ar zpy n (D.zbI aD c0 c1 c2 a0) F w0):=by
 refine kN Tryz.func397 rfl 16 rfl rfl fun fr r hB=>?_;have lc0b:=ah c0h
 have lc1b:=ah c1h;have lc2b:=ah c2h;refine wsr ?_;refine za7 (.cells (kq zpy) 318 (0,0)) r (fun R=>za6 zqm) rfl fun fr b1 w2 n3 r=>?_;obtain ⟨eb1,zw2,hb1,hB,zB⟩:=n3.all hB
 refine wn (aa (wsr (kM (U a0) r rfl rfl fun r=>kL (I c0) r rfl (keep hB c0h) to3 rfl rfl fun r=>?_)));refine kE r (zhZ w2 c0) rfl zrP rfl fun w4 hb r=>?_
 have zw4:=hb.size;have hb1:=keep hb hb1;obtain ⟨hB,zB⟩:=bon hb hB;refine kB r rfl rfl rfl rfl rfl fun r=>wn ?_;refine ae (t:=(a0==(D.zdA c0))) (r.ev rfl) (fun h5=>?_) (fun h5=>?_)
 ·
  refine wsr ?_;have hF1:=zpq hF hB b1;refine kD r (zgj (F:=(kW F w0 w4 b1)) (n:=n) hF1 true) rfl zrU rfl fun w6 v7 hb hr8 r=>?_;have zw6:=hb.size
  have hb1:=keep hb hb1;obtain ⟨hB,zB⟩:=bon hb hB;refine kP r hr8.shape rfl rfl hb1 zqb rfl rfl fun w9 u10 r=>?_;have zw9:=u10.size
  have hb1:=u10.at_;obtain ⟨hB,zB⟩:=u10.on hB kw
  refine wn (ac ?_);have hd:D.zbI aD c0 c1 c2 a0=(D.zdj true):=(zaq h5).trans (rfl);have hs:=hr8.shape.cells;refine za5 r rfl rfl hb1 (k:=7) hs.1 zqd ?_;rw [←hs.2.2,hd];exact rfin hF hB hr8 u10 kw kw kw
 refine ag (wsr (kG (zp8 c1) 6 r rfl (keep hB c1h) ta23 rfl rfl fun r=>kL (I c0) r rfl (keep hB c0h) to3 rfl rfl fun r=>kL (I c2) r rfl (keep hB c2h) to3 rfl rfl fun r=>kB r rfl rfl rfl rfl rfl fun r=>?_));have hF1:=zpq hF hB b1
 refine kD r ((aS n kw) (kW F w0 w4 b1) _ hF1 c1 c0 (W (c2+1))) rfl zrS rfl fun w11 v12 hb hr13 r=>?_;have zw11:=hb.size
 have hb1:=keep hb hb1;obtain ⟨hB,zB⟩:=bon hb hB;refine kP r hr13.shape rfl rfl hb1 zqb rfl rfl fun w14 u15 r=>?_;have zw14:=u15.size
 have hb1:=u15.at_;obtain ⟨hB,zB⟩:=u15.on hB kw
 refine wn (ac ?_);have hd:D.zbI aD c0 c1 c2 a0=(aD c1 c0 (W (c2+1))):=(zar h5).trans (rfl);have hs:=hr13.shape.cells;refine za5 r rfl rfl hb1 (k:=7) hs.1 zqd ?_;rw [←hs.2.2,hd];exact rfin hF hB hr13 u15 kw kw kw
theorem zkG {n:Nat} {F:Nat→Prop} {aD:Plan→Int→Int→T Bool} {w0:World} (hF:∀ b,F b→b<w0.heap.size) (aS:∀ m,m<n→zeH aD m)
    (a0:Plan) (a1:Int) (a2:Int) :
    Calls ar 380 #[aq (zp8 a0),.int .i64 a1,.int .i64 a2] w0 (zpg ar zpy n (D.zbg aD a0 a1 a2) F w0):=by
 refine kN Tryz.func380 rfl 21 rfl rfl fun fr r hB=>?_;refine wsr ?_
 refine kX 23 (aq (zp8 a0)) r rfl rfl fun b1 w2 n3 r=>?_;obtain ⟨eb1,zw2,hb1,hB,zB⟩:=n3.all hB
 refine kX 3 (I a1) r rfl rfl fun b4 w5 n6 r=>?_;have hb1:=keep n6.below hb1
 obtain ⟨eb4,zw5,hb4,hB,zB⟩:=n6.all hB;refine kX 3 (I a2) r rfl rfl fun b7 w8 n9 r=>?_;have hb1:=keep n9.below hb1
 have hb4:=keep n9.below hb4;obtain ⟨eb7,zw8,hb7,hB,zB⟩:=n9.all hB;refine za7 (.cells (kq zpy) 318 (0,0)) r (fun R=>za6 zqm) rfl fun fr b10 w11 n12 r=>?_;have hb1:=keep n12.below hb1
 have hb4:=keep n12.below hb4;have hb7:=keep n12.below hb7;obtain ⟨eb10,zw11,hb10,hB,zB⟩:=n12.all hB;refine wn (aa (wsr (kL (I a2) r rfl hb7 to3 rfl rfl fun r=>kF 0 r rfl zkq rfl fun r=>kL (I a0.threads) r rfl hb1 to3 rfl rfl fun r=>kB r rfl rfl rfl rfl rfl fun r=>kB r rfl rfl rfl rfl rfl fun r=>wn ?_)));refine ae (t:=(a2==(W (a0.threads * 3)))) (r.ev rfl) (fun h13=>?_) (fun h13=>?_)
 ·
  refine wsr ?_;have hF1:=zpq hF hB b10;refine kD r (zgj (F:=(kW F w0 w11 b10)) (n:=n) hF1 false) rfl zrU rfl fun w14 v15 hb hr16 r=>?_;have zw14:=hb.size
  have hb1:=keep hb hb1;have hb4:=keep hb hb4;have hb7:=keep hb hb7;have hb10:=keep hb hb10;obtain ⟨hB,zB⟩:=bon hb hB;refine kP r hr16.shape rfl rfl hb10 zqb rfl rfl fun w17 u18 r=>?_;have zw17:=u18.size
  have hb1:=u18.keep hb1 kw
  have hb4:=u18.keep hb4 kw
  have hb7:=u18.keep hb7 kw
  have hb10:=u18.at_;obtain ⟨hB,zB⟩:=u18.on hB kw
  refine wn (ac ?_);have hd:D.zbg aD a0 a1 a2=(D.zdj false):=(zaq h13).trans (rfl);have hs:=hr16.shape.cells;refine za5 r rfl rfl hb10 (k:=7) hs.1 zqd ?_;rw [←hs.2.2,hd];exact rfin hF hB hr16 u18 kw kw kw
 refine ag (wsr (kG (zp8 a0) 6 r rfl hb1 ta23 rfl rfl fun r=>kL (I a2) r rfl hb7 to3 rfl rfl fun r=>kB r rfl rfl rfl rfl rfl fun r=>kL (I a2) r rfl hb7 to3 rfl rfl fun r=>kB r rfl rfl rfl rfl rfl fun r=>?_));refine kE r (zfd w11 a0 (W (a2.tdiv 3)) (a2.tmod 3)) rfl zrH rfl fun w19 hb r=>?_
 have zw19:=hb.size;have hb1:=keep hb hb1;have hb4:=keep hb hb4;have hb7:=keep hb hb7;have hb10:=keep hb hb10;obtain ⟨hB,zB⟩:=bon hb hB;refine za0 (.func (.func 397) #[] #[zp b4,zp b1,zp b7]) r (fun R=>zae r rfl) rfl fun fr r=>?_;have hF1:=zpq hF hB b10
 have f20:((kW F w0 w19 b10)) b4:=(.inr ⟨kw,kw,kw⟩)
 have f21:((kW F w0 w19 b10)) b1:=(.inr ⟨kw,kw,kw⟩)
 have f22:((kW F w0 w19 b10)) b7:=(.inr ⟨kw,kw,kw⟩)
 refine kD r (zj6 (F:=(kW F w0 w19 b10)) (n:=n) hF1 (D.zbn a0 (W (a2.tdiv 3)) (a2.tmod 3)) ⟨397,[],[zp b4,zp b1,zp b7],zu0,rfl,fun m hm x w' hs hz=>zjV (fun b hb=>ai (hF1 b hb) hz) (fun m' hm'=>aS m' kw) a1 f20 (hs.at_ f20 hb4) a0 f21 (hs.at_ f21 hb1) a2 f22 (hs.at_ f22 hb7) x⟩) rfl zul rfl fun w23 v24 hb hr25 r=>?_;have zw23:=hb.size
 have hb1:=keep hb hb1;have hb4:=keep hb hb4;have hb7:=keep hb hb7;have hb10:=keep hb hb10;obtain ⟨hB,zB⟩:=bon hb hB;refine kP r hr25.shape rfl rfl hb10 zqb rfl rfl fun w26 u27 r=>?_;have zw26:=u27.size
 have hb1:=u27.keep hb1 kw
 have hb4:=u27.keep hb4 kw
 have hb7:=u27.keep hb7 kw
 have hb10:=u27.at_;obtain ⟨hB,zB⟩:=u27.on hB kw
 refine wn (ac ?_);have hd:D.zbg aD a0 a1 a2=(D.zfo (D.zbn a0 (W (a2.tdiv 3)) (a2.tmod 3)) (fun x=>(D.zbI aD a1 a0 a2 x))):=(zar h13).trans (rfl)
 have hs:=hr25.shape.cells;refine za5 r rfl rfl hb10 (k:=7) hs.1 zqd ?_;rw [←hs.2.2,hd];exact rfin hF hB hr25 u27 kw kw kw
theorem zl5 {n:Nat} {k:Nat} (hk:n<k):zeH (D.zbE k) n:=by
 induction n using Nat.strongRecOn generalizing k with
 | _ n ih=>
  obtain ⟨k,rfl⟩:∃ q,k=q+1:=⟨k - 1,kw⟩
  intro F w0 hF;have h:=@zkG n F (D.zbE k) w0 hF (fun m hm=>ih m hm kw)
  exact h
def D.zfU (j:Nat) (a0:Plan) (a1:Int):T Bool:=(D.zbE j a0 a1 0)
theorem zl2 (hF:kH F w0) (hj:n<j)
    (a0:Plan) (a1:Int) :
    Calls ar 349 #[aq (zp8 a0),.int .i64 a1] w0 (zpg ar zpy n (D.zfU j a0 a1) F w0):=by
 refine kN Tryz.func349 rfl 8 rfl rfl fun fr r hB=>?_;refine wsr ?_
 refine kX 23 (aq (zp8 a0)) r rfl rfl fun b1 w2 n3 r=>?_;obtain ⟨eb1,zw2,hb1,hB,zB⟩:=n3.all hB
 refine za7 (.cells (kq zpy) 318 (0,0)) r (fun R=>za6 zqm) rfl fun fr b4 w5 n6 r=>?_;have hb1:=keep n6.below hb1
 obtain ⟨eb4,zw5,hb4,hB,zB⟩:=n6.all hB;refine wn (wsr (kG (zp8 a0) 6 r rfl hb1 ta23 rfl rfl fun r=>kM (I a1) r rfl rfl fun r=>?_));have hF1:=zpq hF hB b4
 refine kD r ((zl5 (k:=j) (n:=n) kw) (kW F w0 w5 b4) _ hF1 a0 a1 0) rfl zrS rfl fun w7 v8 hb hr9 r=>?_;have zw7:=hb.size
 have hb1:=keep hb hb1;have hb4:=keep hb hb4;obtain ⟨hB,zB⟩:=bon hb hB;refine kP r hr9.shape rfl rfl hb4 zqb rfl rfl fun w10 u11 r=>?_;have zw10:=u11.size
 have hb1:=u11.keep hb1 kw
 have hb4:=u11.at_;obtain ⟨hB,zB⟩:=u11.on hB kw
 exact wn (ac (kR r hr9 rfl rfl hb4 rfl zqd hF hB u11 kw kw kw))
def D.zcz (a0:Plan) (a1:Int) (a2:Int) (a3:Int):T Unit:=(D.zik (D.zbn a0 a1 a2) (D.zdA a3))
theorem zgZ (hF:kH F w0)
    (a0:Plan) (a1:Int) (a2:Int) (a3:Int) :
    Calls ar 229 #[aq (zp8 a0),.int .i64 a1,.int .i64 a2,.int .i64 a3] w0 (zpg ar zpc n (D.zcz a0 a1 a2 a3) F w0):=by
 refine kN Tryz.func229 rfl 16 rfl rfl fun fr r hB=>?_;refine wsr ?_
 refine kX 23 (aq (zp8 a0)) r rfl rfl fun b1 w2 n3 r=>?_;obtain ⟨eb1,zw2,hb1,hB,zB⟩:=n3.all hB
 refine za7 (.cells (kq zpc) 133 (0,0)) r (fun R=>za6 zpW) rfl fun fr b4 w5 n6 r=>?_;have hb1:=keep n6.below hb1
 obtain ⟨eb4,zw5,hb4,hB,zB⟩:=n6.all hB;refine wn (wsr (kG (zp8 a0) 6 r rfl hb1 ta23 rfl rfl fun r=>kM (I a1) r rfl rfl fun r=>kM (I a2) r rfl rfl fun r=>?_));refine kE r (zfd w5 a0 a1 a2) rfl zrH rfl fun w7 hb r=>?_
 have zw7:=hb.size;have hb1:=keep hb hb1;have hb4:=keep hb hb4;obtain ⟨hB,zB⟩:=bon hb hB;refine kM (I a3) r rfl rfl fun r=>?_;refine kE r (zhZ w7 a3) rfl zrP rfl fun w8 hb r=>?_
 have zw8:=hb.size;have hb1:=keep hb hb1;have hb4:=keep hb hb4;obtain ⟨hB,zB⟩:=bon hb hB;have hF1:=zpq hF hB b4;refine kD r (zkx (F:=(kW F w0 w8 b4)) (n:=n) hF1 (D.zbn a0 a1 a2) (D.zdA a3)) rfl zrO rfl fun w9 v10 hb hr11 r=>?_;have zw9:=hb.size
 have hb1:=keep hb hb1;have hb4:=keep hb hb4;obtain ⟨hB,zB⟩:=bon hb hB;refine kP r hr11.shape rfl rfl hb4 zpT rfl rfl fun w12 u13 r=>?_;have zw12:=u13.size
 have hb1:=u13.keep hb1 kw
 have hb4:=u13.at_;obtain ⟨hB,zB⟩:=u13.on hB kw
 exact wn (ac (kR r hr11 rfl rfl hb4 rfl zpS hF hB u13 kw kw kw))
def D.zcx (ay:Plan→Int→Int→Int→Int→Int→T Int) (c0:Int) (c1:Plan) (c2:Int) (c3:Int) (c4:Int) (c5:Int) (a0:Int):T Int:=(bif (a0==c0) then (D.zcv c0) else (ay c1 c2 c3 c4 c5 a0))
def D.zen (ay:Plan→Int→Int→Int→Int→Int→T Int) (c0:Int) (c1:Int) (c2:Plan) (c3:Int) (c4:Int) (c5:Int):T Int:=(D.zdo c0 (fun x=>(D.zcx ay c1 c2 c3 c4 c0 c5 x)))
def D.zbD (ay:Plan→Int→Int→Int→Int→Int→T Int) (a0:Plan) (a1:Int) (a2:Int) (a3:Int) (a4:Int) (a5:Int):T Int:=(bif (decide ((IntKind.i64.wrap ((IntKind.i64.wrap (shrI .u64 a5 a4)) - 1))<0)) then (D.zcv a5) else (T.bind (D.zcz a0 a1 a2 (IntKind.i64.wrap ((IntKind.i64.wrap (shrI .u64 a5 a4)) - 1))) (fun _=>(D.zen ay a3 a5 a0 a1 a2 a4))))
def D.zca:Nat→Plan→Int→Int→Int→Int→Int→T Int
 | 0,_,_,_,_,_,_=>.cut
 | k+1,a0,a1,a2,a3,a4,a5=>D.zbD (D.zca k) a0 a1 a2 a3 a4 a5
def zd0 (r:Plan→Int→Int→Int→Int→Int→T Int) (n:Nat):Prop:=∀ (F:Nat→Prop) (w0:World),(∀ b,F b→b<w0.heap.size)→∀ (a0:Plan) (a1:Int) (a2:Int) (a3:Int) (a4:Int) (a5:Int) (_:0≤a4),Calls ar 315 #[aq (zp8 a0),.int .i64 a1,.int .i64 a2,.int .i64 a3,.int .i64 a4,.int .u64 a5] w0 (zpg ar zpp n (r a0 a1 a2 a3 a4 a5) F w0)
theorem zhV {ay:Plan→Int→Int→Int→Int→Int→T Int} (hF:kH F w0) (aL:∀ m,m≤n→zd0 ay m)
    (c0:Int) {c0b:Nat} (c0F:F c0b) (c0h:w0.heap[c0b]?=some (.cells ([(.int .u64 c0)]).toArray 34 (0,0))) (c1:Plan) {c1b:Nat} (c1F:F c1b) (c1h:w0.heap[c1b]?=some (.cells ((zp8 c1)).toArray 23 (0,0))) (c2:Int) {c2b:Nat} (c2F:F c2b) (c2h:w0.heap[c2b]?=some (.cells ([(.int .i64 c2)]).toArray 3 (0,0))) (c3:Int) {c3b:Nat} (c3F:F c3b) (c3h:w0.heap[c3b]?=some (.cells ([(.int .i64 c3)]).toArray 3 (0,0))) (c4:Int) {c4b:Nat} (c4F:F c4b) (c4h:w0.heap[c4b]?=some (.cells ([(.int .i64 c4)]).toArray 3 (0,0))) (c5:Int) {c5b:Nat} (c5F:F c5b) (c5h:w0.heap[c5b]?=some (.cells ([(.int .i64 c5)]).toArray 3 (0,0))) (a0:Int) (pre0:0≤c5) :
    Calls ar 362 #[.int .u64 a0,zp c0b,zp c1b,zp c2b,zp c3b,zp c4b,zp c5b] w0 (zpg ar zpp n (D.zcx ay c0 c1 c2 c3 c4 c5 a0) F w0):=by
 refine kN Tryz.func362 rfl 21 rfl rfl fun fr r hB=>?_;have lc0b:=ah c0h
 have lc1b:=ah c1h;have lc2b:=ah c2h;have lc3b:=ah c3h;have lc4b:=ah c4h;have lc5b:=ah c5h;refine wsr ?_;refine za7 (.cells (kq zpp) 271 (0,0)) r (fun R=>za6 zq6) rfl fun fr b1 w2 n3 r=>?_;obtain ⟨eb1,zw2,hb1,hB,zB⟩:=n3.all hB
 refine wn (aa (wsr (kM (U a0) r rfl rfl fun r=>kL (U c0) r rfl (keep hB c0h) to34 rfl rfl fun r=>kB r rfl rfl rfl rfl rfl fun r=>wn ?_)));refine ae (t:=(a0==c0)) (r.ev rfl) (fun h4=>?_) (fun h4=>?_)
 ·
  refine wsr (kL (U c0) r rfl (keep hB c0h) to34 rfl rfl fun r=>?_);have hF1:=zpq hF hB b1
  refine kD r (zfm (F:=(kW F w0 w2 b1)) (n:=n) hF1 c0) rfl zsb rfl fun w5 v6 hb hr7 r=>?_;have zw5:=hb.size
  have hb1:=keep hb hb1;obtain ⟨hB,zB⟩:=bon hb hB;refine kP r hr7.shape rfl rfl hb1 zq3 rfl rfl fun w8 u9 r=>?_;have zw8:=u9.size
  have hb1:=u9.at_;obtain ⟨hB,zB⟩:=u9.on hB kw
  refine wn (ac ?_);have hd:D.zcx ay c0 c1 c2 c3 c4 c5 a0=(D.zcv c0):=(zaq h4).trans (rfl);have hs:=hr7.shape.cells;refine za5 r rfl rfl hb1 (k:=7) hs.1 zq2 ?_;rw [←hs.2.2,hd];exact rfin hF hB hr7 u9 kw kw kw
 refine ag (wsr (kG (zp8 c1) 6 r rfl (keep hB c1h) ta23 rfl rfl fun r=>kL (I c2) r rfl (keep hB c2h) to3 rfl rfl fun r=>kL (I c3) r rfl (keep hB c3h) to3 rfl rfl fun r=>kL (I c4) r rfl (keep hB c4h) to3 rfl rfl fun r=>kL (I c5) r rfl (keep hB c5h) to3 rfl rfl fun r=>kM (U a0) r rfl rfl fun r=>?_));have hF1:=zpq hF hB b1
 refine kD r ((aL n kw) (kW F w0 w2 b1) _ hF1 c1 c2 c3 c4 c5 a0 yau) rfl zrs rfl fun w10 v11 hb hr12 r=>?_;have zw10:=hb.size
 have hb1:=keep hb hb1;obtain ⟨hB,zB⟩:=bon hb hB;refine kP r hr12.shape rfl rfl hb1 zq3 rfl rfl fun w13 u14 r=>?_;have zw13:=u14.size
 have hb1:=u14.at_;obtain ⟨hB,zB⟩:=u14.on hB kw
 refine wn (ac ?_);have hd:D.zcx ay c0 c1 c2 c3 c4 c5 a0=(ay c1 c2 c3 c4 c5 a0):=(zar h4).trans (rfl);have hs:=hr12.shape.cells;refine za5 r rfl rfl hb1 (k:=7) hs.1 zq2 ?_;rw [←hs.2.2,hd];exact rfin hF hB hr12 u14 kw kw kw
theorem zje {ay:Plan→Int→Int→Int→Int→Int→T Int} (hF:kH F w0) (aL:∀ m,m<n→zd0 ay m)
    (c0:Int) {c0b:Nat} (c0F:F c0b) (c0h:w0.heap[c0b]?=some (.cells ([(.int .i64 c0)]).toArray 3 (0,0))) (c1:Int) {c1b:Nat} (c1F:F c1b) (c1h:w0.heap[c1b]?=some (.cells ([(.int .u64 c1)]).toArray 34 (0,0))) (c2:Plan) {c2b:Nat} (c2F:F c2b) (c2h:w0.heap[c2b]?=some (.cells ((zp8 c2)).toArray 23 (0,0))) (c3:Int) {c3b:Nat} (c3F:F c3b) (c3h:w0.heap[c3b]?=some (.cells ([(.int .i64 c3)]).toArray 3 (0,0))) (c4:Int) {c4b:Nat} (c4F:F c4b) (c4h:w0.heap[c4b]?=some (.cells ([(.int .i64 c4)]).toArray 3 (0,0))) (c5:Int) {c5b:Nat} (c5F:F c5b) (c5h:w0.heap[c5b]?=some (.cells ([(.int .i64 c5)]).toArray 3 (0,0))) (pre0:0≤c5) :
    Calls ar 361 #[.agg #[],zp c0b,zp c1b,zp c2b,zp c3b,zp c4b,zp c5b] w0 (zpg ar zpp n (D.zen ay c0 c1 c2 c3 c4 c5) F w0):=by
 refine kN Tryz.func361 rfl 12 rfl rfl fun fr r hB=>?_;have lc0b:=ah c0h
 have lc1b:=ah c1h;have lc2b:=ah c2h;have lc3b:=ah c3h;have lc4b:=ah c4h;have lc5b:=ah c5h;refine wsr ?_;refine kX 128 (.agg #[]) r rfl rfl fun b1 w2 n3 r=>?_;obtain ⟨eb1,zw2,hb1,hB,zB⟩:=n3.all hB
 refine za7 (.cells (kq zpp) 271 (0,0)) r (fun R=>za6 zq6) rfl fun fr b4 w5 n6 r=>?_;have hb1:=keep n6.below hb1
 obtain ⟨eb4,zw5,hb4,hB,zB⟩:=n6.all hB;refine wn (wsr (kL (I c0) r rfl (keep hB c0h) to3 rfl rfl fun r=>za0 (.func (.func 362) #[] #[zp c1b,zp c2b,zp c3b,zp c4b,zp c0b,zp c5b]) r (fun R=>zae r rfl) rfl fun fr r=>?_));have hF1:=zpq hF hB b4
 have f7:((kW F w0 w5 b4)) c1b:=(.inl c1F);have f8:((kW F w0 w5 b4)) c2b:=(.inl c2F);have f9:((kW F w0 w5 b4)) c3b:=(.inl c3F);have f10:((kW F w0 w5 b4)) c4b:=(.inl c4F);have f11:((kW F w0 w5 b4)) c0b:=(.inl c0F);have f12:((kW F w0 w5 b4)) c5b:=(.inl c5F);refine kD r (zfb (F:=(kW F w0 w5 b4)) (n:=n) hF1 c0 ⟨362,[],[zp c1b,zp c2b,zp c3b,zp c4b,zp c0b,zp c5b],ztZ,rfl,fun m hm x w' hs hz=>zhV (fun b hb=>ai (hF1 b hb) hz) (fun m' hm'=>aL m' kw) c1 f7 (hs.at_ f7 (keep hB c1h)) c2 f8 (hs.at_ f8 (keep hB c2h)) c3 f9 (hs.at_ f9 (keep hB c3h)) c4 f10 (hs.at_ f10 (keep hB c4h)) c0 f11 (hs.at_ f11 (keep hB c0h)) c5 f12 (hs.at_ f12 (keep hB c5h)) x yau⟩) rfl zsf rfl fun w13 v14 hb hr15 r=>?_;have zw13:=hb.size
 have hb1:=keep hb hb1;have hb4:=keep hb hb4;obtain ⟨hB,zB⟩:=bon hb hB;refine kP r hr15.shape rfl rfl hb4 zq3 rfl rfl fun w16 u17 r=>?_;have zw16:=u17.size
 have hb1:=u17.keep hb1 kw
 have hb4:=u17.at_;obtain ⟨hB,zB⟩:=u17.on hB kw
 exact wn (ac (kR r hr15 rfl rfl hb4 rfl zq2 hF hB u17 kw kw kw))
theorem zk8 {n:Nat} {F:Nat→Prop} {ay:Plan→Int→Int→Int→Int→Int→T Int} {w0:World} (hF:∀ b,F b→b<w0.heap.size) (aL:∀ m,m<n→zd0 ay m)
    (a0:Plan) (a1:Int) (a2:Int) (a3:Int) (a4:Int) (a5:Int) (pre0:0≤a4) :
    Calls ar 315 #[aq (zp8 a0),.int .i64 a1,.int .i64 a2,.int .i64 a3,.int .i64 a4,.int .u64 a5] w0 (zpg ar zpp n (D.zbD ay a0 a1 a2 a3 a4 a5) F w0):=by
 refine kN Tryz.func315 rfl 30 rfl rfl fun fr r hB=>?_;refine wsr ?_
 refine kX 23 (aq (zp8 a0)) r rfl rfl fun b1 w2 n3 r=>?_;obtain ⟨eb1,zw2,hb1,hB,zB⟩:=n3.all hB
 refine kX 3 (I a1) r rfl rfl fun b4 w5 n6 r=>?_;have hb1:=keep n6.below hb1
 obtain ⟨eb4,zw5,hb4,hB,zB⟩:=n6.all hB;refine kX 3 (I a2) r rfl rfl fun b7 w8 n9 r=>?_;have hb1:=keep n9.below hb1
 have hb4:=keep n9.below hb4;obtain ⟨eb7,zw8,hb7,hB,zB⟩:=n9.all hB;refine kX 3 (I a3) r rfl rfl fun b10 w11 n12 r=>?_;have hb1:=keep n12.below hb1
 have hb4:=keep n12.below hb4;have hb7:=keep n12.below hb7;obtain ⟨eb10,zw11,hb10,hB,zB⟩:=n12.all hB;refine kX 3 (I a4) r rfl rfl fun b13 w14 n15 r=>?_;have hb1:=keep n15.below hb1
 have hb4:=keep n15.below hb4;have hb7:=keep n15.below hb7;have hb10:=keep n15.below hb10;obtain ⟨eb13,zw14,hb13,hB,zB⟩:=n15.all hB;refine kX 34 (U a5) r rfl rfl fun b16 w17 n18 r=>?_;have hb1:=keep n18.below hb1
 have hb4:=keep n18.below hb4;have hb7:=keep n18.below hb7;have hb10:=keep n18.below hb10;have hb13:=keep n18.below hb13;obtain ⟨eb16,zw17,hb16,hB,zB⟩:=n18.all hB;refine za7 (.cells (kq zpp) 271 (0,0)) r (fun R=>za6 zq6) rfl fun fr b19 w20 n21 r=>?_;have hb1:=keep n21.below hb1
 have hb4:=keep n21.below hb4;have hb7:=keep n21.below hb7;have hb10:=keep n21.below hb10;have hb13:=keep n21.below hb13;have hb16:=keep n21.below hb16;obtain ⟨eb19,zw20,hb19,hB,zB⟩:=n21.all hB;refine wn (wsr (kL (U a5) r rfl hb16 to34 rfl rfl fun r=>kL (I a4) r rfl hb13 to3 rfl rfl fun r=>kB r rfl rfl rfl (zm4 yau) rfl fun r=>za0 (I (W (shrI .u64 a5 a4))) r (fun R=>zb6 r rfl ti34 ti3) rfl fun fr r=>kB r rfl rfl rfl rfl rfl fun r=>kA (I (W ((W (shrI .u64 a5 a4)) - 1))) r rfl rfl fun r=>wn (aa (wsr (kM (I (W ((W (shrI .u64 a5 a4)) - 1))) r rfl rfl fun r=>kB r rfl rfl rfl rfl rfl fun r=>wn ?_)))));refine ae (t:=(decide ((W ((W (shrI .u64 a5 a4)) - 1))<0))) (r.ev rfl) (fun h22=>?_) (fun h22=>?_)
 ·
  refine wsr (kL (U a5) r rfl hb16 to34 rfl rfl fun r=>?_);have hF1:=zpq hF hB b19
  refine kD r (zfm (F:=(kW F w0 w20 b19)) (n:=n) hF1 a5) rfl zsb rfl fun w23 v24 hb hr25 r=>?_;have zw23:=hb.size
  have hb1:=keep hb hb1;have hb4:=keep hb hb4;have hb7:=keep hb hb7;have hb10:=keep hb hb10;have hb13:=keep hb hb13;have hb16:=keep hb hb16;have hb19:=keep hb hb19;obtain ⟨hB,zB⟩:=bon hb hB;refine kP r hr25.shape rfl rfl hb19 zq3 rfl rfl fun w26 u27 r=>?_;have zw26:=u27.size
  have hb1:=u27.keep hb1 kw
  have hb4:=u27.keep hb4 kw
  have hb7:=u27.keep hb7 kw
  have hb10:=u27.keep hb10 kw
  have hb13:=u27.keep hb13 kw
  have hb16:=u27.keep hb16 kw
  have hb19:=u27.at_;obtain ⟨hB,zB⟩:=u27.on hB kw
  refine wn (ac ?_);have hd:D.zbD ay a0 a1 a2 a3 a4 a5=(D.zcv a5):=(zaq h22).trans (rfl);have hs:=hr25.shape.cells;refine za5 r rfl rfl hb19 (k:=7) hs.1 zq2 ?_;rw [←hs.2.2,hd];exact rfin hF hB hr25 u27 kw kw kw
 refine ag (wsr (kG (zp8 a0) 6 r rfl hb1 ta23 rfl rfl fun r=>kL (I a1) r rfl hb4 to3 rfl rfl fun r=>kL (I a2) r rfl hb7 to3 rfl rfl fun r=>kM (I (W ((W (shrI .u64 a5 a4)) - 1))) r rfl rfl fun r=>?_));have hF1:=zpq hF hB b19
 refine kD r (zgZ (F:=(kW F w0 w20 b19)) (n:=n) hF1 a0 a1 a2 (W ((W (shrI .u64 a5 a4)) - 1))) rfl zrh rfl fun w28 v29 hb hr30 r=>?_;have zw28:=hb.size
 have hb1:=keep hb hb1;have hb4:=keep hb hb4;have hb7:=keep hb hb7;have hb10:=keep hb hb10;have hb13:=keep hb hb13;have hb16:=keep hb hb16;have hb19:=keep hb hb19;obtain ⟨hB,zB⟩:=bon hb hB;refine za0 (.func (.func 361) #[] #[zp b10,zp b16,zp b1,zp b4,zp b7,zp b13]) r (fun R=>zae r rfl) rfl fun fr r=>?_;have hF1:=zpq hF hB b19
 have f31:((kW F w0 w28 b19)) b10:=(.inr ⟨kw,kw,kw⟩)
 have f32:((kW F w0 w28 b19)) b16:=(.inr ⟨kw,kw,kw⟩)
 have f33:((kW F w0 w28 b19)) b1:=(.inr ⟨kw,kw,kw⟩)
 have f34:((kW F w0 w28 b19)) b4:=(.inr ⟨kw,kw,kw⟩)
 have f35:((kW F w0 w28 b19)) b7:=(.inr ⟨kw,kw,kw⟩)
 have f36:((kW F w0 w28 b19)) b13:=(.inr ⟨kw,kw,kw⟩)
 refine kD r (zf8 (F:=(kW F w0 w28 b19)) (n:=n) hF1 (Rep.mono yae (Same.refl _ _) kw n _ _ hr30) ⟨361,[],[zp b10,zp b16,zp b1,zp b4,zp b7,zp b13],ztM,rfl,fun m hm _ w' hs hz=>zje (fun b hb=>ai (hF1 b hb) hz) (fun m' hm'=>aL m' kw) a3 f31 (hs.at_ f31 hb10) a5 f32 (hs.at_ f32 hb16) a0 f33 (hs.at_ f33 hb1) a1 f34 (hs.at_ f34 hb4) a2 f35 (hs.at_ f35 hb7) a4 f36 (hs.at_ f36 hb13) yau⟩) rfl zrR rfl fun w37 v38 hb hr39 r=>?_
 have zw37:=hb.size;have hb1:=keep hb hb1;have hb4:=keep hb hb4;have hb7:=keep hb hb7;have hb10:=keep hb hb10;have hb13:=keep hb hb13;have hb16:=keep hb hb16;have hb19:=keep hb hb19;obtain ⟨hB,zB⟩:=bon hb hB;refine kP r hr39.shape rfl rfl hb19 zq3 rfl rfl fun w40 u41 r=>?_;have zw40:=u41.size
 have hb1:=u41.keep hb1 kw
 have hb4:=u41.keep hb4 kw
 have hb7:=u41.keep hb7 kw
 have hb10:=u41.keep hb10 kw
 have hb13:=u41.keep hb13 kw
 have hb16:=u41.keep hb16 kw
 have hb19:=u41.at_;obtain ⟨hB,zB⟩:=u41.on hB kw
 refine wn (ac ?_);have hd:D.zbD ay a0 a1 a2 a3 a4 a5=(T.bind (D.zcz a0 a1 a2 (W ((W (shrI .u64 a5 a4)) - 1))) (fun _=>(D.zen ay a3 a5 a0 a1 a2 a4))):=(zar h22).trans (rfl)
 have hs:=hr39.shape.cells;refine za5 r rfl rfl hb19 (k:=7) hs.1 zq2 ?_;rw [←hs.2.2,hd];exact rfin hF hB hr39 u41 kw kw kw
theorem zka {n:Nat} {k:Nat} (hk:n<k):zd0 (D.zca k) n:=by
 induction n using Nat.strongRecOn generalizing k with
 | _ n ih=>
  obtain ⟨k,rfl⟩:∃ q,k=q+1:=⟨k - 1,kw⟩
  intro F w0 hF;have h:=@zk8 n F (D.zca k) w0 hF (fun m hm=>ih m hm kw)
  exact h
def D.zeo (j:Nat) (c0:Plan) (c1:Int) (c2:Int) (c3:Int) (c4:Int) (a0:Int):T Int:=(D.zca j c0 c1 c2 c3 c4 a0)
theorem zjb (hF:kH F w0) (hj:n<j)
    (c0:Plan) {c0b:Nat} (c0F:F c0b) (c0h:w0.heap[c0b]?=some (.cells ((zp8 c0)).toArray 23 (0,0))) (c1:Int) {c1b:Nat} (c1F:F c1b) (c1h:w0.heap[c1b]?=some (.cells ([(.int .i64 c1)]).toArray 3 (0,0))) (c2:Int) {c2b:Nat} (c2F:F c2b) (c2h:w0.heap[c2b]?=some (.cells ([(.int .i64 c2)]).toArray 3 (0,0))) (c3:Int) {c3b:Nat} (c3F:F c3b) (c3h:w0.heap[c3b]?=some (.cells ([(.int .i64 c3)]).toArray 3 (0,0))) (c4:Int) {c4b:Nat} (c4F:F c4b) (c4h:w0.heap[c4b]?=some (.cells ([(.int .i64 c4)]).toArray 3 (0,0))) (a0:Int) (pre0:0≤c4) :
    Calls ar 314 #[.int .u64 a0,zp c0b,zp c1b,zp c2b,zp c3b,zp c4b] w0 (zpg ar zpp n (D.zeo j c0 c1 c2 c3 c4 a0) F w0):=by
 refine kN Tryz.func314 rfl 15 rfl rfl fun fr r hB=>?_;have lc0b:=ah c0h
 have lc1b:=ah c1h;have lc2b:=ah c2h;have lc3b:=ah c3h;have lc4b:=ah c4h;refine wsr ?_;refine za7 (.cells (kq zpp) 271 (0,0)) r (fun R=>za6 zq6) rfl fun fr b1 w2 n3 r=>?_;obtain ⟨eb1,zw2,hb1,hB,zB⟩:=n3.all hB
 refine wn (wsr (kG (zp8 c0) 6 r rfl (keep hB c0h) ta23 rfl rfl fun r=>kL (I c1) r rfl (keep hB c1h) to3 rfl rfl fun r=>kL (I c2) r rfl (keep hB c2h) to3 rfl rfl fun r=>kL (I c3) r rfl (keep hB c3h) to3 rfl rfl fun r=>kL (I c4) r rfl (keep hB c4h) to3 rfl rfl fun r=>kM (U a0) r rfl rfl fun r=>?_));have hF1:=zpq hF hB b1
 refine kD r ((zka (k:=j) (n:=n) kw) (kW F w0 w2 b1) _ hF1 c0 c1 c2 c3 c4 a0 yau) rfl zrs rfl fun w4 v5 hb hr6 r=>?_;have zw4:=hb.size
 have hb1:=keep hb hb1;obtain ⟨hB,zB⟩:=bon hb hB;refine kP r hr6.shape rfl rfl hb1 zq3 rfl rfl fun w7 u8 r=>?_;have zw7:=u8.size
 have hb1:=u8.at_;obtain ⟨hB,zB⟩:=u8.on hB kw
 exact wn (ac (kR r hr6 rfl rfl hb1 rfl zq2 hF hB u8 kw kw kw))
def D.zer (j:Nat) (a0:Plan) (a1:Int) (a2:Int) (a3:Int) (a4:Int):T Int:=(D.zdo a3 (fun x=>(D.zeo j a0 a1 a2 a3 a4 x)))
theorem zkf (hF:kH F w0) (hj:n<j)
    (a0:Plan) (a1:Int) (a2:Int) (a3:Int) (a4:Int) (pre0:0≤a4) :
    Calls ar 247 #[aq (zp8 a0),.int .i64 a1,.int .i64 a2,.int .i64 a3,.int .i64 a4] w0 (zpg ar zpp n (D.zer j a0 a1 a2 a3 a4) F w0):=by
 refine kN Tryz.func247 rfl 14 rfl rfl fun fr r hB=>?_;refine wsr ?_
 refine kX 23 (aq (zp8 a0)) r rfl rfl fun b1 w2 n3 r=>?_;obtain ⟨eb1,zw2,hb1,hB,zB⟩:=n3.all hB
 refine kX 3 (I a1) r rfl rfl fun b4 w5 n6 r=>?_;have hb1:=keep n6.below hb1
 obtain ⟨eb4,zw5,hb4,hB,zB⟩:=n6.all hB;refine kX 3 (I a2) r rfl rfl fun b7 w8 n9 r=>?_;have hb1:=keep n9.below hb1
 have hb4:=keep n9.below hb4;obtain ⟨eb7,zw8,hb7,hB,zB⟩:=n9.all hB;refine kX 3 (I a3) r rfl rfl fun b10 w11 n12 r=>?_;have hb1:=keep n12.below hb1
 have hb4:=keep n12.below hb4;have hb7:=keep n12.below hb7;obtain ⟨eb10,zw11,hb10,hB,zB⟩:=n12.all hB;refine kX 3 (I a4) r rfl rfl fun b13 w14 n15 r=>?_;have hb1:=keep n15.below hb1
 have hb4:=keep n15.below hb4;have hb7:=keep n15.below hb7;have hb10:=keep n15.below hb10;obtain ⟨eb13,zw14,hb13,hB,zB⟩:=n15.all hB;refine za7 (.cells (kq zpp) 271 (0,0)) r (fun R=>za6 zq6) rfl fun fr b16 w17 n18 r=>?_;have hb1:=keep n18.below hb1
 have hb4:=keep n18.below hb4;have hb7:=keep n18.below hb7;have hb10:=keep n18.below hb10;have hb13:=keep n18.below hb13;obtain ⟨eb16,zw17,hb16,hB,zB⟩:=n18.all hB;refine wn (wsr (kL (I a3) r rfl hb10 to3 rfl rfl fun r=>za0 (.func (.func 314) #[] #[zp b1,zp b4,zp b7,zp b10,zp b13]) r (fun R=>zae r rfl) rfl fun fr r=>?_));have hF1:=zpq hF hB b16
 have f19:((kW F w0 w17 b16)) b1:=(.inr ⟨kw,kw,kw⟩)
 have f20:((kW F w0 w17 b16)) b4:=(.inr ⟨kw,kw,kw⟩)
 have f21:((kW F w0 w17 b16)) b7:=(.inr ⟨kw,kw,kw⟩)
 have f22:((kW F w0 w17 b16)) b10:=(.inr ⟨kw,kw,kw⟩)
 have f23:((kW F w0 w17 b16)) b13:=(.inr ⟨kw,kw,kw⟩)
 refine kD r (zfb (F:=(kW F w0 w17 b16)) (n:=n) hF1 a3 ⟨314,[],[zp b1,zp b4,zp b7,zp b10,zp b13],zsM,rfl,fun m hm x w' hs hz=>zjb (j:=j) (fun b hb=>ai (hF1 b hb) hz) kw a0 f19 (hs.at_ f19 hb1) a1 f20 (hs.at_ f20 hb4) a2 f21 (hs.at_ f21 hb7) a3 f22 (hs.at_ f22 hb10) a4 f23 (hs.at_ f23 hb13) x yau⟩) rfl zsf rfl fun w24 v25 hb hr26 r=>?_;have zw24:=hb.size
 have hb1:=keep hb hb1;have hb4:=keep hb hb4;have hb7:=keep hb hb7;have hb10:=keep hb hb10;have hb13:=keep hb hb13;have hb16:=keep hb hb16;obtain ⟨hB,zB⟩:=bon hb hB;refine kP r hr26.shape rfl rfl hb16 zq3 rfl rfl fun w27 u28 r=>?_;have zw27:=u28.size
 have hb1:=u28.keep hb1 kw
 have hb4:=u28.keep hb4 kw
 have hb7:=u28.keep hb7 kw
 have hb10:=u28.keep hb10 kw
 have hb13:=u28.keep hb13 kw
 have hb16:=u28.at_;obtain ⟨hB,zB⟩:=u28.on hB kw
 exact wn (ac (kR r hr26 rfl rfl hb16 rfl zq2 hF hB u28 kw kw kw))
def D.zde (aF:Plan→Int→Int→T Unit) (c0:Plan) (c1:Int) (c2:Int):T Unit:=(aF c0 c1 (IntKind.i64.wrap (c2+1)))
def D.zbu (aF:Plan→Int→Int→T Unit) (a0:Plan) (a1:Int) (a2:Int):T Unit:=(bif (a2==3) then D.zem else (T.bind (D.zcz a0 a1 a2 (-1)) (fun _=>(D.zde aF a0 a1 a2))))
def D.zco:Nat→Plan→Int→Int→T Unit
 | 0,_,_,_=>.cut
 | k+1,a0,a1,a2=>D.zbu (D.zco k) a0 a1 a2
def zei (r:Plan→Int→Int→T Unit) (n:Nat):Prop:=∀ (F:Nat→Prop) (w0:World),(∀ b,F b→b<w0.heap.size)→∀ (a0:Plan) (a1:Int) (a2:Int),Calls ar 304 #[aq (zp8 a0),.int .i64 a1,.int .i64 a2] w0 (zpg ar zpc n (r a0 a1 a2) F w0)
theorem zjc {aF:Plan→Int→Int→T Unit} (hF:kH F w0) (aP:∀ m,m≤n→zei aF m)
    (c0:Plan) {c0b:Nat} (c0F:F c0b) (c0h:w0.heap[c0b]?=some (.cells ((zp8 c0)).toArray 23 (0,0))) (c1:Int) {c1b:Nat} (c1F:F c1b) (c1h:w0.heap[c1b]?=some (.cells ([(.int .i64 c1)]).toArray 3 (0,0))) (c2:Int) {c2b:Nat} (c2F:F c2b) (c2h:w0.heap[c2b]?=some (.cells ([(.int .i64 c2)]).toArray 3 (0,0))) :
    Calls ar 353 #[.agg #[],zp c0b,zp c1b,zp c2b] w0 (zpg ar zpc n (D.zde aF c0 c1 c2) F w0):=by
 refine kN Tryz.func353 rfl 11 rfl rfl fun fr r hB=>?_;have lc0b:=ah c0h
 have lc1b:=ah c1h;have lc2b:=ah c2h;refine wsr ?_;refine kX 128 (.agg #[]) r rfl rfl fun b1 w2 n3 r=>?_;obtain ⟨eb1,zw2,hb1,hB,zB⟩:=n3.all hB
 refine za7 (.cells (kq zpc) 133 (0,0)) r (fun R=>za6 zpW) rfl fun fr b4 w5 n6 r=>?_;have hb1:=keep n6.below hb1
 obtain ⟨eb4,zw5,hb4,hB,zB⟩:=n6.all hB;refine wn (wsr (kG (zp8 c0) 6 r rfl (keep hB c0h) ta23 rfl rfl fun r=>kL (I c1) r rfl (keep hB c1h) to3 rfl rfl fun r=>kL (I c2) r rfl (keep hB c2h) to3 rfl rfl fun r=>kB r rfl rfl rfl rfl rfl fun r=>?_));have hF1:=zpq hF hB b4
 refine kD r ((aP n kw) (kW F w0 w5 b4) _ hF1 c0 c1 (W (c2+1))) rfl zsq rfl fun w7 v8 hb hr9 r=>?_;have zw7:=hb.size
 have hb1:=keep hb hb1;have hb4:=keep hb hb4;obtain ⟨hB,zB⟩:=bon hb hB;refine kP r hr9.shape rfl rfl hb4 zpT rfl rfl fun w10 u11 r=>?_;have zw10:=u11.size
 have hb1:=u11.keep hb1 kw
 have hb4:=u11.at_;obtain ⟨hB,zB⟩:=u11.on hB kw
 exact wn (ac (kR r hr9 rfl rfl hb4 rfl zpS hF hB u11 kw kw kw))
theorem zke {n:Nat} {F:Nat→Prop} {aF:Plan→Int→Int→T Unit} {w0:World} (hF:∀ b,F b→b<w0.heap.size) (aP:∀ m,m<n→zei aF m)
    (a0:Plan) (a1:Int) (a2:Int) :
    Calls ar 304 #[aq (zp8 a0),.int .i64 a1,.int .i64 a2] w0 (zpg ar zpc n (D.zbu aF a0 a1 a2) F w0):=by
 refine kN Tryz.func304 rfl 17 rfl rfl fun fr r hB=>?_;refine wsr ?_
 refine kX 23 (aq (zp8 a0)) r rfl rfl fun b1 w2 n3 r=>?_;obtain ⟨eb1,zw2,hb1,hB,zB⟩:=n3.all hB
 refine kX 3 (I a1) r rfl rfl fun b4 w5 n6 r=>?_;have hb1:=keep n6.below hb1
 obtain ⟨eb4,zw5,hb4,hB,zB⟩:=n6.all hB;refine kX 3 (I a2) r rfl rfl fun b7 w8 n9 r=>?_;have hb1:=keep n9.below hb1
 have hb4:=keep n9.below hb4;obtain ⟨eb7,zw8,hb7,hB,zB⟩:=n9.all hB;refine za7 (.cells (kq zpc) 133 (0,0)) r (fun R=>za6 zpW) rfl fun fr b10 w11 n12 r=>?_;have hb1:=keep n12.below hb1
 have hb4:=keep n12.below hb4;have hb7:=keep n12.below hb7;obtain ⟨eb10,zw11,hb10,hB,zB⟩:=n12.all hB;refine wn (aa (wsr (kL (I a2) r rfl hb7 to3 rfl rfl fun r=>kB r rfl rfl rfl rfl rfl fun r=>wn ?_)));refine ae (t:=(a2==3)) (r.ev rfl) (fun h13=>?_) (fun h13=>?_)
 ·
  refine wsr (kU (.agg #[]) r kz rfl fun r=>?_);have hF1:=zpq hF hB b10
  refine kD r (zgc (F:=(kW F w0 w11 b10)) (n:=n) hF1 ) rfl zrt rfl fun w14 v15 hb hr16 r=>?_;have zw14:=hb.size
  have hb1:=keep hb hb1;have hb4:=keep hb hb4;have hb7:=keep hb hb7;have hb10:=keep hb hb10;obtain ⟨hB,zB⟩:=bon hb hB;refine kP r hr16.shape rfl rfl hb10 zpT rfl rfl fun w17 u18 r=>?_;have zw17:=u18.size
  have hb1:=u18.keep hb1 kw
  have hb4:=u18.keep hb4 kw
  have hb7:=u18.keep hb7 kw
  have hb10:=u18.at_;obtain ⟨hB,zB⟩:=u18.on hB kw
  refine wn (ac ?_);have hd:D.zbu aF a0 a1 a2=D.zem:=(zaq h13).trans (rfl);have hs:=hr16.shape.cells;refine za5 r rfl rfl hb10 (k:=6) hs.1 zpS ?_;rw [←hs.2.2,hd];exact rfin hF hB hr16 u18 kw kw kw
 refine ag (wsr (kG (zp8 a0) 6 r rfl hb1 ta23 rfl rfl fun r=>kL (I a1) r rfl hb4 to3 rfl rfl fun r=>kL (I a2) r rfl hb7 to3 rfl rfl fun r=>?_));have hF1:=zpq hF hB b10
 refine kD r (zgZ (F:=(kW F w0 w11 b10)) (n:=n) hF1 a0 a1 a2 (-1)) rfl zrh rfl fun w19 v20 hb hr21 r=>?_;have zw19:=hb.size
 have hb1:=keep hb hb1;have hb4:=keep hb hb4;have hb7:=keep hb hb7;have hb10:=keep hb hb10;obtain ⟨hB,zB⟩:=bon hb hB;refine za0 (.func (.func 353) #[] #[zp b1,zp b4,zp b7]) r (fun R=>zae r rfl) rfl fun fr r=>?_;have hF1:=zpq hF hB b10
 have f22:((kW F w0 w19 b10)) b1:=(.inr ⟨kw,kw,kw⟩)
 have f23:((kW F w0 w19 b10)) b4:=(.inr ⟨kw,kw,kw⟩)
 have f24:((kW F w0 w19 b10)) b7:=(.inr ⟨kw,kw,kw⟩)
 refine kD r (zfw (F:=(kW F w0 w19 b10)) (n:=n) hF1 (Rep.mono yae (Same.refl _ _) kw n _ _ hr21) ⟨353,[],[zp b1,zp b4,zp b7],ztW,rfl,fun m hm _ w' hs hz=>zjc (fun b hb=>ai (hF1 b hb) hz) (fun m' hm'=>aP m' kw) a0 f22 (hs.at_ f22 hb1) a1 f23 (hs.at_ f23 hb4) a2 f24 (hs.at_ f24 hb7)⟩ rfl) rfl zs5 rfl fun w25 v26 hb hr27 r=>?_
 have zw25:=hb.size;have hb1:=keep hb hb1;have hb4:=keep hb hb4;have hb7:=keep hb hb7;have hb10:=keep hb hb10;obtain ⟨hB,zB⟩:=bon hb hB;refine kP r hr27.shape rfl rfl hb10 zpT rfl rfl fun w28 u29 r=>?_;have zw28:=u29.size
 have hb1:=u29.keep hb1 kw
 have hb4:=u29.keep hb4 kw
 have hb7:=u29.keep hb7 kw
 have hb10:=u29.at_;obtain ⟨hB,zB⟩:=u29.on hB kw
 refine wn (ac ?_);have hd:D.zbu aF a0 a1 a2=(T.bind (D.zcz a0 a1 a2 (-1)) (fun _=>(D.zde aF a0 a1 a2))):=(zar h13).trans (rfl)
 have hs:=hr27.shape.cells;refine za5 r rfl rfl hb10 (k:=6) hs.1 zpS ?_;rw [←hs.2.2,hd];exact rfin hF hB hr27 u29 kw kw kw
theorem zkb {n:Nat} {k:Nat} (hk:n<k):zei (D.zco k) n:=by
 induction n using Nat.strongRecOn generalizing k with
 | _ n ih=>
  obtain ⟨k,rfl⟩:∃ q,k=q+1:=⟨k - 1,kw⟩
  intro F w0 hF;have h:=@zke n F (D.zco k) w0 hF (fun m hm=>ih m hm kw)
  exact h
def D.zfa (j:Nat) (a0:Plan) (a1:Int):T Unit:=(D.zco j a0 a1 0)
theorem zhu (hF:kH F w0) (hj:n<j)
    (a0:Plan) (a1:Int) :
    Calls ar 238 #[aq (zp8 a0),.int .i64 a1] w0 (zpg ar zpc n (D.zfa j a0 a1) F w0):=by
 refine kN Tryz.func238 rfl 8 rfl rfl fun fr r hB=>?_;refine wsr ?_
 refine kX 23 (aq (zp8 a0)) r rfl rfl fun b1 w2 n3 r=>?_;obtain ⟨eb1,zw2,hb1,hB,zB⟩:=n3.all hB
 refine za7 (.cells (kq zpc) 133 (0,0)) r (fun R=>za6 zpW) rfl fun fr b4 w5 n6 r=>?_;have hb1:=keep n6.below hb1
 obtain ⟨eb4,zw5,hb4,hB,zB⟩:=n6.all hB;refine wn (wsr (kG (zp8 a0) 6 r rfl hb1 ta23 rfl rfl fun r=>kM (I a1) r rfl rfl fun r=>?_));have hF1:=zpq hF hB b4
 refine kD r ((zkb (k:=j) (n:=n) kw) (kW F w0 w5 b4) _ hF1 a0 a1 0) rfl zsq rfl fun w7 v8 hb hr9 r=>?_;have zw7:=hb.size
 have hb1:=keep hb hb1;have hb4:=keep hb hb4;obtain ⟨hB,zB⟩:=bon hb hB;refine kP r hr9.shape rfl rfl hb4 zpT rfl rfl fun w10 u11 r=>?_;have zw10:=u11.size
 have hb1:=u11.keep hb1 kw
 have hb4:=u11.at_;obtain ⟨hB,zB⟩:=u11.on hB kw
 exact wn (ac (kR r hr9 rfl rfl hb4 rfl zpS hF hB u11 kw kw kw))
end
theorem zuf:zp7 ar 115:=kz
theorem cl19:zp7 ar 19:=kz
theorem cl65:zp7 ar 65:=kz
theorem zrL:sized ar 128 0:=kz
theorem ts36:sized ar 36 2:=kz
theorem zs9:zeroOf ar 128=some (.agg #[]):=kz
theorem tz36:zeroOf ar 36=some (aq (resC (⟨0,0⟩:Res))):=kz
def D.zdx (fu:Nat) (a0:Nat × T Unit) (a1:Mem) (a2:Cap):Option ((Nat × T Unit) × Bool × Mem):=(bif a0.2.zps then (some (a0,false,a1)) else ((D.zbZ fu a1 a2 (T.acc a0.2)).bind (fun (x16:Int × Bool × Mem)=>(bif (!x16.2.1) then (some (a0,false,x16.2.2)) else ((depthI a0.1).bind (fun (x26:Nat)=>(some ((x26,T.next a0.2 x16.1),true,x16.2.2))))))))
theorem zgw {fu:Nat} (w0:World) {a0v:Value} {a0F:List Nat} (a0:Nat × T Unit) {a1g:MG} (a1:Mem) (a2:Cap) (hS:Sep [zpK ar zpc a0 a0v a0F,memK a1g a1] w0) {res:(Nat × T Unit) × Bool × Mem} (hD:D.zdx fu a0 a1 a2=some res) :
    Calls ar 115 #[a0v,zp a1g.mb,aq (capC a2)] w0 (fun e w'=>∃ (v0:Value) (F0:List Nat),e=.returned (.tuple #[v0,(.bool res.2.1)])∧Done (fun b=>b∈(memK a1g a1).own) (fun b=>b∈a0F) [memK a1g res.2.2,zpK ar zpc res.1 v0 F0] w0 w'):=by
 refine enter Tryz.func115 rfl 28 rfl rfl fun fr r=>?_;have hP:Post (fun b=>b∈(memK a1g a1).own) [zpK ar zpc a0 a0v a0F,memK a1g a1] w0 w0:=.start hS (by simp [memK,zpK])
 unfold D.zdx at hD
 refine wsr ?_;refine kX 133 a0v r rfl rfl fun b1 w2 n3 r=>?_;have hP:Post (fun b=>b∈(memK a1g a1).own) [zpK ar zpc a0 a0v a0F,memK a1g a1,zpb b1 a0v.cells 133] w0 w2:=hP.new n3
 refine kX 52 (aq (capC a2)) r rfl rfl fun b5 w6 n7 r=>?_;have hP:Post (fun b=>b∈(memK a1g a1).own) [zpK ar zpc a0 a0v a0F,memK a1g a1,zpb b1 a0v.cells 133,zpb b5 ((capC a2)).toArray 52] w0 w6:=hP.new n7
 refine za7 (.cells (kq zpc) 133 (0,0)) r (fun R=>za6 zpW) rfl fun fr b9 w10 n11 r=>?_;have hP:Post (fun b=>b∈(memK a1g a1).own) [zpK ar zpc a0 a0v a0F,memK a1g a1,zpb b1 a0v.cells 133,zpb b5 ((capC a2)).toArray 52,zpb b9 (kq zpc) 133] w0 w10:=hP.new n11
 refine kA (.bool false) r rfl rfl fun r=>wn (aa (wsr (za0 _ r (fun R=>za3 r (b:=b1) (o:=0) (k:=0) rfl zf3) rfl fun fr r=>kL (.bool a0.2.zps) r rfl (hP.cell (i:=2) rfl) to4 (Rep.ziO (hP.prog (i:=0) rfl)) rfl fun r=>wn ?_)));refine ae (t:=a0.2.zps) (r.ev rfl) (fun h13=>?_) (fun h13=>?_)
 ·
  have hD:=(zaq h13).symm.trans hD;refine wsr (za0 a0v r (fun R=>zgC r (hP.prog (i:=0) rfl).shape rfl (hP.cell (i:=2) rfl) zpS) rfl fun fr r=>?_);refine kP r (hP.prog (i:=0) rfl).shape rfl rfl (hP.cell (i:=4) rfl) zpT rfl rfl fun w14 u15 r=>?_
  have hP:Post (fun b=>b∈(memK a1g a1).own) [zpK ar zpc a0 a0v a0F,memK a1g a1,zpb b1 a0v.cells 133,zpb b5 ((capC a2)).toArray 52,zpb b9 a0v.cells 133] w0 w14:=hP.upd (i:=4) rfl u15
  refine kA (.bool false) r rfl rfl fun r=>wn (ac ?_);have hv:(a0,false,a1)=res:=Option.some.inj hD
  try dsimp only [Exit.then,Exit.inBlock]
  have hs:=(hP.prog (i:=0) rfl).shape.cells;refine zc1 (fn:=Tryz.f115) r rfl rfl (v':=(.bool false)) rfl (hP.cell (i:=4) rfl) (k:=6) hs.1 zpS ?_;rw [←hs.2.2];subst hv;exact ⟨a0v,a0F,rfl,(hP.pick [1,0] rfl rfl).done (zbm rfl (zix (fun b h=>.inl h) zbX))⟩
 have hD:=(zar h13).symm.trans hD;refine ag (wsr (kM (zp a1g.mb) r rfl rfl fun r=>kG (capC a2) 2 r rfl (hP.cell (i:=3) rfl) ta52 rfl rfl fun r=>za0 _ r (fun R=>za3 r (b:=b1) (o:=0) (k:=1) rfl zjI) rfl fun fr r=>kG (zpm (T.acc a0.2)) 4 r rfl (hP.cell (i:=2) rfl) ta38 (Rep.zog (hP.prog (i:=0) rfl) h13) rfl fun r=>?_));obtain ⟨x16,hx16,hD⟩:=zaj hD
 refine kC r (zgO w10 a1 a2 (T.acc a0.2) (hP.sep.pk [1] rfl rfl) hx16) rfl cl65 rfl ?_;rintro _ w17 ⟨rfl,hq⟩;refine ⟨_,rfl,fun fr r=>?_⟩
 have hP:Post (fun b=>b∈(memK a1g a1).own) [zpK ar zpc a0 a0v a0F,memK a1g x16.2.2,zpb b1 a0v.cells 133,zpb b5 ((capC a2)).toArray 52,zpb b9 (kq zpc) 133] w0 w17:=hP.setN (i:=1) rfl hq
 refine kM (.tuple #[(U x16.1),(.bool x16.2.1)]) r rfl rfl fun r=>za0 (U x16.1) r (fun R=>zb2 r (vs:=#[(U x16.1),(.bool x16.2.1)]) rfl rfl) rfl fun fr r=>za0 (.bool x16.2.1) r (fun R=>zb2 r (vs:=#[(U x16.1),(.bool x16.2.1)]) rfl rfl) rfl fun fr r=>kA (U x16.1) r rfl rfl fun r=>kA (.bool x16.2.1) r rfl rfl fun r=>wn (aa (wsr (kM (.bool x16.2.1) r rfl rfl fun r=>za0 (.bool (!x16.2.1)) r (fun R=>y_un r (u:=(.bool x16.2.1)) rfl rfl) rfl fun fr r=>wn ?_)));refine ae (t:=(!x16.2.1)) (r.ev rfl) (fun h18=>?_) (fun h18=>?_)
 ·
  have hD:=(zaq h18).symm.trans hD;refine wsr (za0 a0v r (fun R=>zgC r (hP.prog (i:=0) rfl).shape rfl (hP.cell (i:=2) rfl) zpS) rfl fun fr r=>?_);refine kP r (hP.prog (i:=0) rfl).shape rfl rfl (hP.cell (i:=4) rfl) zpT rfl rfl fun w19 u20 r=>?_
  have hP:Post (fun b=>b∈(memK a1g a1).own) [zpK ar zpc a0 a0v a0F,memK a1g x16.2.2,zpb b1 a0v.cells 133,zpb b5 ((capC a2)).toArray 52,zpb b9 a0v.cells 133] w0 w19:=hP.upd (i:=4) rfl u20
  refine kA (.bool false) r rfl rfl fun r=>wn (ac ?_);have hv:(a0,false,x16.2.2)=res:=Option.some.inj hD
  try dsimp only [Exit.then,Exit.inBlock]
  have hs:=(hP.prog (i:=0) rfl).shape.cells;refine zc1 (fn:=Tryz.f115) r rfl rfl (v':=(.bool false)) rfl (hP.cell (i:=4) rfl) (k:=6) hs.1 zpS ?_;rw [←hs.2.2];subst hv;exact ⟨a0v,a0F,rfl,(hP.pick [1,0] rfl rfl).done (zbm rfl (zix (fun b h=>.inl h) zbX))⟩
 have hD:=(zar h18).symm.trans hD;refine ag (wsr (za0 _ r (fun R=>za3 r (b:=b1) (o:=0) (k:=5) rfl zjE) rfl fun fr r=>?_));obtain ⟨nf21,n122,n223,hv24,hk25⟩:=Rep.zm0 (hP.prog (i:=0) rfl) h13
 refine kL (kf nf21 n122 n223) r rfl (hP.cell (i:=2) rfl) zqt hv24 rfl fun r=>kM (U x16.1) r rfl rfl fun r=>?_;obtain ⟨x26,hx26,hD⟩:=zaj hD
 refine zbo r (hk25.at_.2 x26 (by rw [zlf hx26]; exact Nat.lt_succ_self _) x16.1 w17 (Same.refl _ _) (Nat.le_refl _)) (fun R hc=>zc6 r rfl rfl hk25.at_.1 hc) rfl ?_;rintro _ w27 ⟨v28,rfl,hb,hr29⟩
 refine ⟨_,rfl,fun fr r=>?_⟩
 have zw27:=hP.size;have hP:Post (fun b=>b∈(memK a1g a1).own) [zpK ar zpc a0 a0v a0F,memK a1g x16.2.2,zpb b1 a0v.cells 133,zpb b5 ((capC a2)).toArray 52,zpb b9 (kq zpc) 133,zpK ar zpc (x26,T.next a0.2 x16.1) v28 (a0F++rg w17.heap.size w27.heap.size)] w0 w27:=hP.addProgF (k:=0) rfl hb hr29
 refine kP r (hP.prog (i:=5) rfl).shape rfl rfl (hP.cell (i:=4) rfl) zpT rfl rfl fun w31 u32 r=>?_;have hP:Post (fun b=>b∈(memK a1g a1).own) [zpK ar zpc a0 a0v a0F,memK a1g x16.2.2,zpb b1 a0v.cells 133,zpb b5 ((capC a2)).toArray 52,zpb b9 v28.cells 133,zpK ar zpc (x26,T.next a0.2 x16.1) v28 (a0F++rg w17.heap.size w27.heap.size)] w0 w31:=hP.upd (i:=4) rfl u32
 refine kA (.bool true) r rfl rfl fun r=>wn (ac ?_);have hv:((x26,T.next a0.2 x16.1),true,x16.2.2)=res:=Option.some.inj hD
 try dsimp only [Exit.then,Exit.inBlock]
 have hs:=(hP.prog (i:=5) rfl).shape.cells;refine zc1 (fn:=Tryz.f115) r rfl rfl (v':=(.bool true)) rfl (hP.cell (i:=4) rfl) (k:=6) hs.1 zpS ?_;rw [←hs.2.2];subst hv;exact ⟨v28,(a0F++rg w17.heap.size w27.heap.size),rfl,(hP.pick [1,5] rfl rfl).done (zbm rfl (zix (fun b h=>(List.mem_append.1 h).elim .inl (fun h=>.inr (by have:=(zfG.1 h).1; omega))) zbX))⟩
def D.zeO (fu:Nat) (a0:Nat × T Unit) (a1:Mem) (a2:Cap) (a3:Int):Option (Unit × Int × Bool × Mem):=(loopThen (fun (x13:Int × Mem × (Nat × T Unit))=>(Option.bind (bif (decide (x13.1<a3)) then (some (!x13.2.2.2.zps)) else (some false)) (fun (x19:Bool)=>(bif x19 then ((D.zdx fu x13.2.2 x13.2.1 a2).bind (fun (x23:(Nat × T Unit) × Bool × Mem)=>(bif (!x23.2.1) then (some (Lp.brk (x13.1,x23.2.2,x13.2.2))) else (some (Lp.next ((IntKind.i64.wrap (x13.1+1)),x23.2.2,x23.1)))))) else (some (Lp.brk (x13.1,x13.2.1,x13.2.2))))))) fu (0,a1,a0) (fun (x37:Int × Mem × (Nat × T Unit))=>(some ((),x37.1,x37.2.2.2.zps,x37.2.1))))
theorem zjA {fu:Nat} (w0:World) {a0v:Value} {a0F:List Nat} (a0:Nat × T Unit) {a1g:MG} (a1:Mem) (a2:Cap) (a3:Int) (hS:Sep [zpK ar zpc a0 a0v a0F,memK a1g a1] w0) {res:Unit × Int × Bool × Mem} (hD:D.zeO fu a0 a1 a2 a3=some res) :
    Calls ar 61 #[a0v,zp a1g.mb,aq (capC a2),.int .i64 a3] w0 (fun e w'=>e=.returned (.tuple #[(.agg #[]),(.int .i64 res.2.1),(.bool res.2.2.1)])∧Done (fun b=>b∈(memK a1g a1).own) No [memK a1g res.2.2.2] w0 w'):=by
 refine enter Tryz.func61 rfl 39 rfl rfl fun fr r=>?_;have hP:Post (fun b=>b∈(memK a1g a1).own) [zpK ar zpc a0 a0v a0F,memK a1g a1] w0 w0:=.start hS (by simp [memK,zpK])
 unfold D.zeO at hD
 refine wsr ?_;refine kX 133 a0v r rfl rfl fun b1 w2 n3 r=>?_;have hP:Post (fun b=>b∈(memK a1g a1).own) [zpK ar zpc a0 a0v a0F,memK a1g a1,zpb b1 a0v.cells 133] w0 w2:=hP.new n3
 refine kX 52 (aq (capC a2)) r rfl rfl fun b5 w6 n7 r=>?_;have hP:Post (fun b=>b∈(memK a1g a1).own) [zpK ar zpc a0 a0v a0F,memK a1g a1,zpb b1 a0v.cells 133,zpb b5 ((capC a2)).toArray 52] w0 w6:=hP.new n7
 refine za7 (.cells #[] 128 (0,0)) r (fun R=>za6 zs9) rfl fun fr b9 w10 n11 r=>?_;have hP:Post (fun b=>b∈(memK a1g a1).own) [zpK ar zpc a0 a0v a0F,memK a1g a1,zpb b1 a0v.cells 133,zpb b5 ((capC a2)).toArray 52,zpb b9 #[] 128] w0 w10:=hP.new n11
 refine kA (I 0) r rfl rfl fun r=>kA (.bool false) r rfl rfl fun r=>wn (wsr (kA (I 0) r rfl rfl fun r=>wn (aa ?_)));refine zdT (X:=Int × Mem × (Nat × T Unit)) (G:=Value × List Nat) (x0:=(0,a1,a0)) (fun x γ=>[(0,a0v),(1,(zp a1g.mb)),(2,(aq (capC a2))),(3,(I a3)),(4,(zp b1)),(6,(zp b5)),(8,(zp b9)),(9,(I 0)),(10,(.bool false)),(11,(I x.1))]) (fun x γ w=>Post (fun b=>b∈(memK a1g a1).own) [zpK ar zpc x.2.2 γ.1 γ.2,memK a1g x.2.1,zpb b1 γ.1.cells 133,zpb b5 ((capC a2)).toArray 52,zpb b9 #[] 128] w0 w) (a0v,a0F) r (kO (kO (zai rfl (zai rfl zaO)))) hP hD ?_ ?_
 ·
  rintro x13 γ14 fr w16 g y15 RPy15 nxy15 bky15 rty15 r hP hD;have hP:Post (fun b=>b∈(memK a1g a1).own) [zpK ar zpc x13.2.2 γ14.1 γ14.2,memK a1g x13.2.1,zpb b1 γ14.1.cells 133,zpb b5 ((capC a2)).toArray 52,zpb b9 #[] 128] w0 w16:=hP
  refine aa (aa ?_);refine zc0 (N:=39) (Y:=Bool) (G:=Unit) (fun x γ=>[(0,a0v),(1,(zp a1g.mb)),(2,(aq (capC a2))),(3,(I a3)),(4,(zp b1)),(6,(zp b5)),(8,(zp b9)),(9,(I 0)),(10,(.bool false)),(11,(I x13.1)),(21,(.bool x))]) (fun x γ w=>Post (fun b=>b∈(memK a1g a1).own) [zpK ar zpc x13.2.2 γ14.1 γ14.2,memK a1g x13.2.1,zpb b1 γ14.1.cells 133,zpb b5 ((capC a2)).toArray 52,zpb b9 #[] 128] w0 w) hD ?_ ?_
  ·
   rintro y17 RPy17 nxy17 hD;refine af (kM (I x13.1) r rfl rfl fun r=>kM (I a3) r rfl rfl fun r=>kB r rfl rfl rfl rfl rfl fun r=>kM (.bool (decide (x13.1<a3))) r rfl rfl fun r=>?_);refine zaY (decide (x13.1<a3)) (fun h18=>?_) (fun h18=>?_)
   ·
    have hD:=(zaq h18).symm.trans hD;refine s1 r h18 (za0 _ r (fun R=>za3 r (b:=b1) (o:=0) (k:=0) rfl zf3) rfl fun fr r=>s1 r h18 (kL (.bool x13.2.2.2.zps) r rfl (hP.cell (i:=2) rfl) to4 (Rep.ziO (hP.prog (i:=0) rfl)) rfl fun r=>s1 r h18 (za0 (.bool (!x13.2.2.2.zps)) r (fun R=>y_un r (u:=(.bool x13.2.2.2.zps)) rfl rfl) rfl fun fr r=>za0 (.bool (!x13.2.2.2.zps)) r (fun R=>zaG r (b:=true) (kb h18) rfl) rfl fun fr r=>wn ?_)));exact nxy17 (!x13.2.2.2.zps) () _ _ _ hD r (kO (kO (zai rfl (zai rfl (zai rfl zaO))))) (hP.pick [0,1,2,3,4] rfl rfl)
   have hD:=(zar h18).symm.trans hD;refine s0 r h18 fun fr r=>s0 r h18 fun fr r=>s0 r h18 fun fr r=>za0 (.bool false) r (fun R=>zaG r (b:=false) (kb h18) rfl) rfl fun fr r=>wn ?_;exact nxy17 false () _ _ _ hD r (kO (kO (zai rfl (zai rfl (zai rfl zaO))))) (hP.pick [0,1,2,3,4] rfl rfl)
  rintro x19 γ20 fr w21 g r hP hD;have hP:Post (fun b=>b∈(memK a1g a1).own) [zpK ar zpc x13.2.2 γ14.1 γ14.2,memK a1g x13.2.1,zpb b1 γ14.1.cells 133,zpb b5 ((capC a2)).toArray 52,zpb b9 #[] 128] w0 w21:=hP
  refine ae (t:=x19) (r.ev rfl) (fun h22=>?_) (fun h22=>?_)
  ·
   have hD:=(zaq h22).symm.trans hD;refine ag (wp_block (wsr (za0 γ14.1 r (fun R=>zgC r (hP.prog (i:=0) rfl).shape rfl (hP.cell (i:=2) rfl) zpS) rfl fun fr r=>kM (zp a1g.mb) r rfl rfl fun r=>kG (capC a2) 2 r rfl (hP.cell (i:=3) rfl) ta52 rfl rfl fun r=>?_)));obtain ⟨x23,hx23,hD⟩:=zaj hD
   refine kC r (zgw w21 x13.2.2 x13.2.1 a2 (hP.sep.pk [0,1] rfl rfl) hx23) rfl zuf rfl ?_;rintro _ w24 ⟨v25,F26,rfl,hq⟩;refine ⟨_,rfl,fun fr r=>?_⟩
   have hP:Post (fun b=>b∈(memK a1g a1).own) [zpK ar zpc x13.2.2 γ14.1 γ14.2,memK a1g x23.2.2,zpb b1 γ14.1.cells 133,zpb b5 ((capC a2)).toArray 52,zpb b9 #[] 128,zpK ar zpc x23.1 v25 F26] w0 w24:=hP.setR (i:=1) (k:=0) rfl rfl rfl hq
   refine kM (.tuple #[v25,(.bool x23.2.1)]) r rfl rfl fun r=>za0 v25 r (fun R=>zb2 r (vs:=#[v25,(.bool x23.2.1)]) rfl rfl) rfl fun fr r=>za0 (.bool x23.2.1) r (fun R=>zb2 r (vs:=#[v25,(.bool x23.2.1)]) rfl rfl) rfl fun fr r=>?_;refine za7 (.cells (kq zpc) 133 (0,0)) r (fun R=>za6 zpW) rfl fun fr b28 w29 n30 r=>?_
   have hP:Post (fun b=>b∈(memK a1g a1).own) [zpK ar zpc x13.2.2 γ14.1 γ14.2,memK a1g x23.2.2,zpb b1 γ14.1.cells 133,zpb b5 ((capC a2)).toArray 52,zpb b9 #[] 128,zpK ar zpc x23.1 v25 F26,zpb b28 (kq zpc) 133] w0 w29:=hP.new n30
   refine kP r (hP.prog (i:=5) rfl).shape rfl rfl (hP.cell (i:=6) rfl) zpT rfl rfl fun w32 u33 r=>?_;have hP:Post (fun b=>b∈(memK a1g a1).own) [zpK ar zpc x13.2.2 γ14.1 γ14.2,memK a1g x23.2.2,zpb b1 γ14.1.cells 133,zpb b5 ((capC a2)).toArray 52,zpb b9 #[] 128,zpK ar zpc x23.1 v25 F26,zpb b28 v25.cells 133] w0 w32:=hP.upd (i:=6) rfl u33
   refine kA (.bool x23.2.1) r rfl rfl fun r=>wn (aa (wsr (kM (.bool x23.2.1) r rfl rfl fun r=>za0 (.bool (!x23.2.1)) r (fun R=>y_un r (u:=(.bool x23.2.1)) rfl rfl) rfl fun fr r=>wn ?_)));refine ae (t:=(!x23.2.1)) (r.ev rfl) (fun h34=>?_) (fun h34=>?_)
   ·
    have hD:=(zaq h34).symm.trans hD;refine wp_exit ?_;exact bky15 (x13.1,x23.2.2,x13.2.2) (γ14.1,γ14.2) _ _ _ hD r (kO (kO (zai rfl (zai rfl zaO)))) (hP.pick [0,1,2,3,4] rfl rfl)
   have hD:=(zar h34).symm.trans hD;refine ag (wsr (za0 v25 r (fun R=>zgC r (hP.prog (i:=5) rfl).shape rfl (hP.cell (i:=6) rfl) zpS) rfl fun fr r=>?_));refine kP r (hP.prog (i:=5) rfl).shape rfl rfl (hP.cell (i:=2) rfl) zpT (by have h:=(hP.prog (i:=0) rfl).shape.cells.1; simpa using h) rfl fun w35 u36 r=>?_
   have hP:Post (fun b=>b∈(memK a1g a1).own) [zpK ar zpc x13.2.2 γ14.1 γ14.2,memK a1g x23.2.2,zpb b1 v25.cells 133,zpb b5 ((capC a2)).toArray 52,zpb b9 #[] 128,zpK ar zpc x23.1 v25 F26,zpb b28 v25.cells 133] w0 w35:=hP.upd (i:=2) rfl u36
   refine wn ?_;refine af (kM (I x13.1) r rfl rfl fun r=>kB r rfl rfl rfl rfl rfl fun r=>kA (I (W (x13.1+1))) r rfl rfl fun r=>wn ?_);exact nxy15 ((W (x13.1+1)),x23.2.2,x23.1) (v25,F26) _ _ _ hD r (kO (kO (zai rfl (zai rfl zaO)))) (hP.pick [5,1,2,3,4] rfl rfl)
  have hD:=(zar h22).symm.trans hD;refine wp_exit ?_;exact bky15 (x13.1,x13.2.1,x13.2.2) (γ14.1,γ14.2) _ _ _ hD r (kO (kO (zai rfl (zai rfl zaO)))) (hP.pick [0,1,2,3,4] rfl rfl)
 rintro x37 γ38 fr w39 g r hP hD;have hP:Post (fun b=>b∈(memK a1g a1).own) [zpK ar zpc x37.2.2 γ38.1 γ38.2,memK a1g x37.2.1,zpb b1 γ38.1.cells 133,zpb b5 ((capC a2)).toArray 52,zpb b9 #[] 128] w0 w39:=hP
 refine aa ?_;refine zjm [b9] [.pred (fun v _ _ _=>∃ sp,v=.pointer (some ⟨b1,1,sp⟩)) (fun _ _ _ _ _ h _=>h),.val (.agg #[]),.val (I x37.1),.val (zp b1),.val (.bool x37.2.2.2.zps),.eff (EffP w39.heap.size (zpb b9 #[] 128) (fun _:Unit=>undef) (fun _:Unit=>[])) (EffP.st _ _ _ _),.val (I x37.1),.val (.bool x37.2.2.2.zps)] mixed r (fun b hb=>hP.sep.lt (i:=4) rfl (.inl hb)) kz ?_ ?_
 ·
  refine zbc r rfl kz (fun fr1 g w' hb' hd r'=>?_) ?_
  · exact zex r' rfl zqw ((hP.below (dr hb')).cell (i:=2) rfl) (fun sp=>⟨Below.refl _ _,sp,rfl⟩)
  refine zbc r rfl kz (fun fr1 g w' hb' hd r'=>?_) ?_
  · obtain ⟨sp,hsp⟩:=(hd 0 rfl).1; exact zf4 r' hsp zqh bz
  refine zax r rfl (fun fr1 g w' hk' hd r'=>?_) ?_
  · exact zap r' (v:=(I x37.1)) rfl bz
  refine zax r rfl (fun fr1 g w' hk' hd r'=>?_) ?_
  · exact za3 r' (b:=b1) (o:=0) (k:=0) rfl zf3 bz
  refine zax r rfl (fun fr1 g w' hk' hd r'=>?_) ?_
  · exact za4 r' (v:=(.bool x37.2.2.2.zps)) (hd 3 rfl).1 (hP.cellK (j:=4) rfl (drK hk') (i:=2) rfl rfl) to4 (Rep.ziO (show Rep _ _ _ _ _ _ _ from hP.okK (j:=4) rfl (drK hk') (i:=0) rfl rfl)) bz
  refine zbc r rfl kz (fun fr1 g w' hb' hd r'=>?_) ?_
  · exact zaB r' (o:=0) (v:=(.agg #[])) rfl (hd 1 rfl).1 ((hP.below (dr hb')).cell (i:=4) rfl) zrL ak rfl rfl (fun w2 u2=>⟨u2.kept,(),rfl,u2.at_,(fun b hb=>hP.sep.lt (i:=4) rfl hb),zly⟩)
  refine zax r rfl (fun fr1 g w' hk' hd r'=>?_) ?_
  · exact zbO r' (v:=(I x37.1)) (hd 2 rfl).1 bz
  refine zax r rfl (fun fr1 g w' hk' hd r'=>?_) ?_
  · exact zbO r' (v:=(.bool x37.2.2.2.zps)) (hd 4 rfl).1 bz
  exact zb3
 intro fr gg w40 hb hΦ hap r;obtain ⟨⟨⟩,g5,hcE,_,hs5⟩:=(hΦ 5 rfl).1;have r:=r.congr (sc ((hΦ 7 rfl).1) (sc ((hΦ 6 rfl).1) (sc ((hΦ 4 rfl).1) (sc ((hΦ 3 rfl).1) (sc ((hΦ 2 rfl).1) (sc ((hΦ 1 rfl).1) (sc rfl rfl)))))));have hP:Post (fun b=>b∈(memK a1g a1).own) [zpK ar zpc x37.2.2 γ38.1 γ38.2,memK a1g x37.2.1,zpb b1 γ38.1.cells 133,zpb b5 ((capC a2)).toArray 52,zpb b9 #[] 128] w0 w40:=hP.effL (i:=4) (l:=[]) rfl hb hcE rfl rfl trivial
 refine ac ?_;have hv:((),x37.1,x37.2.2.2.zps,x37.2.1)=res:=Option.some.inj hD
 try dsimp only [Exit.then,Exit.inBlock]
 refine zi7 (fn:=Tryz.f61) r rfl rfl (v':=(I x37.1)) (v2:=(.bool x37.2.2.2.zps)) rfl rfl (hP.cell (i:=4) rfl) (k:=0) rfl zqh ?_;subst hv;exact ⟨rfl,(hP.pick [1] rfl rfl).done (zbm rfl zbX)⟩
def D.zea (fu:Nat) (a0:Nat × T Res) (a1:Mem) (a2:Cap):Option ((Nat × T Res) × Bool × Mem):=(bif a0.2.zps then (some (a0,false,a1)) else ((D.zbZ fu a1 a2 (T.acc a0.2)).bind (fun (x16:Int × Bool × Mem)=>(bif (!x16.2.1) then (some (a0,false,x16.2.2)) else ((depthI a0.1).bind (fun (x26:Nat)=>(some ((x26,T.next a0.2 x16.1),true,x16.2.2))))))))
def D.zdC (fu:Nat) (a0:Nat × T Res) (a1:Mem) (a2:Cap) (a3:Int):Option (Res × Int × Bool × Mem):=(loopThen (fun (x13:Int × Mem × (Nat × T Res))=>(Option.bind (bif (decide (x13.1<a3)) then (some (!x13.2.2.2.zps)) else (some false)) (fun (x19:Bool)=>(bif x19 then ((D.zea fu x13.2.2 x13.2.1 a2).bind (fun (x23:(Nat × T Res) × Bool × Mem)=>(bif (!x23.2.1) then (some (Lp.brk (x13.1,x23.2.2,x13.2.2))) else (some (Lp.next ((IntKind.i64.wrap (x13.1+1)),x23.2.2,x23.1)))))) else (some (Lp.brk (x13.1,x13.2.1,x13.2.2))))))) fu (0,a1,a0) (fun (x37:Int × Mem × (Nat × T Res))=>(some ((T.res (⟨0,0⟩:Res) x37.2.2.2),x37.1,x37.2.2.2.zps,x37.2.1))))
end Go.Proofs.YtbbipmelhmgmfaaGreat
