/- Some of our texts, one behind the other. -/
import Derived.Test.YtbbipmelhmgmfaaGreatDzM12
import Derived.Test.YtbbipmelhmgmfaaGreatDzMems
set_option linter.all false
set_option maxRecDepth 100000
set_option maxHeartbeats 20000000
/- Ours. -/
namespace Go.Proofs.YtbbipmelhmgmfaaGreat
open Go.RowKit
section
variable {n : Nat} {F : Nat -> Prop} {j : Nat} {w0 : World}
theorem sB:af B0 229:=kz
theorem yF:af B0 302:=kz
theorem yx:af B0 303:=kz
theorem ym:af B0 304:=kz
theorem xT:af B0 313:=kz
theorem HC:af B0 314:=kz
theorem yn:af B0 315:=kz
theorem Gr:af B0 353:=kz
theorem yl:af B0 359:=kz
theorem Fy:af B0 361:=kz
theorem Gg:af B0 362:=kz
theorem xH:af B0 380:=kz
theorem yB:af B0 395:=kz
theorem Ha:af B0 396:=kz
theorem HE:af B0 397:=kz
def D.iN (a0:Int):Int:=(IntKind.u64.wrap (IntKind.i64.wrap (a0+1)))
theorem ur (w0:World) 
    (a0:Int) :
    Calls B0 303 #[.int .i64 a0] w0 (bB (.int .u64 (D.iN a0)) w0):=by
 refine kN Tryz.func303 rfl 6 rfl rfl fun fr r hB=>?_;refine I0 (kA (U 0) r rfl rfl fun r=>wn (I0 (kM (I a0) r rfl rfl fun r=>kB r rfl rfl rfl rfl rfl fun r=>aa (U (V (W (a0+1)))) r (fun R=>cV r rfl ti3 KO) rfl fun fr r=>kA (U (V (W (a0+1)))) r rfl rfl fun r=>wn (q4 ?_))))
 refine aT r rfl rfl ?_;exact ⟨rfl,hB⟩
def D.fw (HM:Plan->Int->Int->T Bool) (c0:Int) (c1:Plan) (c2:Int) (a0:Int):T Bool:=(bif (a0==(D.iN c0)) then (D.ll true) else (HM c1 c0 (IntKind.i64.wrap (c2+1))))
def D.fk (HM:Plan->Int->Int->T Bool) (a0:Plan) (a1:Int) (a2:Int):T Bool:=(bif (a2==(IntKind.i64.wrap (a0.threads * 3))) then (D.ll false) else (D.ql (D.fO a0 (IntKind.i64.wrap (a2.tdiv 3)) (a2.tmod 3)) (fun x=>(D.fw HM a1 a0 a2 x))))
def D.eE:Nat->Plan->Int->Int->T Bool
 | 0,_,_,_=>.cut
 | k+1,a0,a1,a2=>D.fk (D.eE k) a0 a1 a2
def pW (r:Plan->Int->Int->T Bool) (n:Nat):Prop:=∀ (F:Nat->Prop) (w0:World),(∀ b,F b->b<w0.heap.size)->∀ (a0:Plan) (a1:Int) (a2:Int),Calls B0 380 #[z6 (ac a0),.int .i64 a1,.int .i64 a2] w0 (aH B0 cv n (r a0 a1 a2) F w0)
theorem BB {HM:Plan->Int->Int->T Bool} (hF:kH F w0) (Im:∀ m,m<=n->pW HM m)
    (c0:Int) {I5:Nat} (J9:F I5) (I3:w0.heap[I5]?=some (.cells ([(.int .i64 c0)]).toArray 3 (0,0))) (c1:Plan) {IE:Nat} (Ka:F IE) (IA:w0.heap[IE]?=some (.cells ((ac c1)).toArray 23 (0,0))) (c2:Int) {IU:Nat} (c2F:F IU) (IR:w0.heap[IU]?=some (.cells ([(.int .i64 c2)]).toArray 3 (0,0))) (a0:Int) :
    Calls B0 397 #[.int .u64 a0,zp I5,zp IE,zp IU] w0 (aH B0 cv n (D.fw HM c0 c1 c2 a0) F w0):=by
 refine kN Tryz.func397 rfl 16 rfl rfl fun fr r hB=>?_;have Jq:=q8 I3
 have Jy:=q8 IA;have Kg:=q8 IR;refine I0 ?_;refine ah (.cells (kq cv) 318 (0,0)) r (fun R=>ag ku) rfl fun fr b1 w2 n3 r=>?_;obtain ⟨eb1,zw2,hb1,hB,zB⟩:=n3.all hB
 refine wn (d9 (I0 (kM (U a0) r rfl rfl fun r=>kL (I c0) r rfl (keep hB I3) IL rfl rfl fun r=>?_)));refine kE r (ur w2 c0) rfl yx rfl fun w4 hb r=>?_
 have zw4:=hb.size;have hb1:=keep hb hb1;obtain ⟨hB,zB⟩:=IQ hb hB;refine kB r rfl rfl rfl rfl rfl fun r=>wn ?_;refine q5 (t:=(a0==(D.iN c0))) (r.ev rfl) (fun h5=>?_) (fun h5=>?_)
 ·
  refine I0 ?_;have I4:=aP hF hB b1;refine kD r (tQ (F:=(kW F w0 w4 b1)) (n:=n) I4 true) rfl yB rfl fun w6 v7 hb hr8 r=>?_;have zw6:=hb.size
  have hb1:=keep hb hb1;obtain ⟨hB,zB⟩:=IQ hb hB;refine kP r hr8.shape rfl rfl hb1 iw rfl rfl fun w9 u10 r=>?_;have zw9:=u10.size
  have hb1:=u10.at_;obtain ⟨hB,zB⟩:=u10.on hB O
  refine wn (q4 ?_);have hd:D.fw HM c0 c1 c2 a0=(D.ll true):=(ar h5).trans (rfl);have hs:=hr8.shape.cells;refine ak r rfl rfl hb1 (k:=7) hs.1 iy ?_;rw [<-hs.2.2,hd];exact JR hF hB hr8 u10 O O O
 refine q7 (I0 (kG (ac c1) 6 r rfl (keep hB IA) IJ rfl rfl fun r=>kL (I c0) r rfl (keep hB I3) IL rfl rfl fun r=>kL (I c2) r rfl (keep hB IR) IL rfl rfl fun r=>kB r rfl rfl rfl rfl rfl fun r=>?_));have I4:=aP hF hB b1
 refine kD r ((Im n O) (kW F w0 w4 b1) _ I4 c1 c0 (W (c2+1))) rfl xH rfl fun JV v12 hb KA r=>?_;have zw11:=hb.size
 have hb1:=keep hb hb1;obtain ⟨hB,zB⟩:=IQ hb hB;refine kP r KA.shape rfl rfl hb1 iw rfl rfl fun w14 u15 r=>?_;have zw14:=u15.size
 have hb1:=u15.at_;obtain ⟨hB,zB⟩:=u15.on hB O
 refine wn (q4 ?_);have hd:D.fw HM c0 c1 c2 a0=(HM c1 c0 (W (c2+1))):=(ai h5).trans (rfl);have hs:=KA.shape.cells;refine ak r rfl rfl hb1 (k:=7) hs.1 iy ?_;rw [<-hs.2.2,hd];exact JR hF hB KA u15 O O O
theorem BR {n:Nat} {F:Nat->Prop} {HM:Plan->Int->Int->T Bool} {w0:World} (hF:∀ b,F b->b<w0.heap.size) (Im:∀ m,m<n->pW HM m)
    (a0:Plan) (a1:Int) (a2:Int) :
    Calls B0 380 #[z6 (ac a0),.int .i64 a1,.int .i64 a2] w0 (aH B0 cv n (D.fk HM a0 a1 a2) F w0):=by
 refine kN Tryz.func380 rfl 21 rfl rfl fun fr r hB=>?_;refine I0 ?_
 refine kX 23 (z6 (ac a0)) r rfl rfl fun b1 w2 n3 r=>?_;obtain ⟨eb1,zw2,hb1,hB,zB⟩:=n3.all hB
 refine kX 3 (I a1) r rfl rfl fun b4 w5 n6 r=>?_;have hb1:=keep n6.below hb1
 obtain ⟨eb4,zw5,Jc,hB,zB⟩:=n6.all hB;refine kX 3 (I a2) r rfl rfl fun b7 w8 n9 r=>?_;have hb1:=keep n9.below hb1
 have Jc:=keep n9.below Jc;obtain ⟨eb7,zw8,JA,hB,zB⟩:=n9.all hB;refine ah (.cells (kq cv) 318 (0,0)) r (fun R=>ag ku) rfl fun fr b10 JV JN r=>?_;have hb1:=keep JN.below hb1
 have Jc:=keep JN.below Jc;have JA:=keep JN.below JA;obtain ⟨eb10,zw11,J3,hB,zB⟩:=JN.all hB;refine wn (d9 (I0 (kL (I a2) r rfl JA IL rfl rfl fun r=>kF 0 r rfl gp rfl fun r=>kL (I a0.threads) r rfl hb1 IL rfl rfl fun r=>kB r rfl rfl rfl rfl rfl fun r=>kB r rfl rfl rfl rfl rfl fun r=>wn ?_)));refine q5 (t:=(a2==(W (a0.threads * 3)))) (r.ev rfl) (fun J6=>?_) (fun J6=>?_)
 ·
  refine I0 ?_;have I4:=aP hF hB b10;refine kD r (tQ (F:=(kW F w0 JV b10)) (n:=n) I4 false) rfl yB rfl fun w14 JF hb KM r=>?_;have zw14:=hb.size
  have hb1:=keep hb hb1;have Jc:=keep hb Jc;have JA:=keep hb JA;have J3:=keep hb J3;obtain ⟨hB,zB⟩:=IQ hb hB;refine kP r KM.shape rfl rfl J3 iw rfl rfl fun w17 K7 r=>?_;have zw17:=K7.size
  have hb1:=K7.keep hb1 O
  have Jc:=K7.keep Jc O
  have JA:=K7.keep JA O
  have J3:=K7.at_;obtain ⟨hB,zB⟩:=K7.on hB O
  refine wn (q4 ?_);have hd:D.fk HM a0 a1 a2=(D.ll false):=(ar J6).trans (rfl);have hs:=KM.shape.cells;refine ak r rfl rfl J3 (k:=7) hs.1 iy ?_;rw [<-hs.2.2,hd];exact JR hF hB KM K7 O O O
 refine q7 (I0 (kG (ac a0) 6 r rfl hb1 IJ rfl rfl fun r=>kL (I a2) r rfl JA IL rfl rfl fun r=>kB r rfl rfl rfl rfl rfl fun r=>kL (I a2) r rfl JA IL rfl rfl fun r=>kB r rfl rfl rfl rfl rfl fun r=>?_));refine kE r (tC JV a0 (W (a2.tdiv 3)) (a2.tmod 3)) rfl yF rfl fun w19 hb r=>?_
 have zw19:=hb.size;have hb1:=keep hb hb1;have Jc:=keep hb Jc;have JA:=keep hb JA;have J3:=keep hb J3;obtain ⟨hB,zB⟩:=IQ hb hB;refine aa (.func (.func 397) #[] #[zp b4,zp b1,zp b7]) r (fun R=>aZ r rfl) rfl fun fr r=>?_;have I4:=aP hF hB b10
 have f20:((kW F w0 w19 b10)) b4:=(.inr ⟨O,O,O⟩)
 have f21:((kW F w0 w19 b10)) b1:=(.inr ⟨O,O,O⟩)
 have f22:((kW F w0 w19 b10)) b7:=(.inr ⟨O,O,O⟩)
 refine kD r (Bf (F:=(kW F w0 w19 b10)) (n:=n) I4 (D.fO a0 (W (a2.tdiv 3)) (a2.tmod 3)) ⟨397,[],[zp b4,zp b1,zp b7],HE,rfl,fun m hm x w' hs hz=>BB (fun b hb=>q9 (I4 b hb) hz) (fun m' hm'=>Im m' O) a1 f20 (hs.at_ f20 Jc) a0 f21 (hs.at_ f21 hb1) a2 f22 (hs.at_ f22 JA) x⟩) rfl Ha rfl fun w23 KH hb hr25 r=>?_;have zw23:=hb.size
 have hb1:=keep hb hb1;have Jc:=keep hb Jc;have JA:=keep hb JA;have J3:=keep hb J3;obtain ⟨hB,zB⟩:=IQ hb hB;refine kP r hr25.shape rfl rfl J3 iw rfl rfl fun w26 u27 r=>?_;have zw26:=u27.size
 have hb1:=u27.keep hb1 O
 have Jc:=u27.keep Jc O
 have JA:=u27.keep JA O
 have J3:=u27.at_;obtain ⟨hB,zB⟩:=u27.on hB O
 refine wn (q4 ?_);have hd:D.fk HM a0 a1 a2=(D.ql (D.fO a0 (W (a2.tdiv 3)) (a2.tmod 3)) (fun x=>(D.fw HM a1 a0 a2 x))):=(ai J6).trans (rfl)
 have hs:=hr25.shape.cells;refine ak r rfl rfl J3 (k:=7) hs.1 iy ?_;rw [<-hs.2.2,hd];exact JR hF hB hr25 u27 O O O
theorem BV {n:Nat} {k:Nat} (hk:n<k):pW (D.eE k) n:=by
 induction n using Nat.strongRecOn generalizing k with
 | _ n ih=>
  obtain ⟨k,rfl⟩:∃ q,k=q+1:=⟨k - 1,O⟩
  intro F w0 hF;have h:=@BR n F (D.eE k) w0 hF (fun m hm=>ih m hm O)
  exact h
def D.nV (j:Nat) (a0:Plan) (a1:Int):T Bool:=(D.eE j a0 a1 0)
theorem C6 (hF:kH F w0) (hj:n<j)
    (a0:Plan) (a1:Int) :
    Calls B0 349 #[z6 (ac a0),.int .i64 a1] w0 (aH B0 cv n (D.nV j a0 a1) F w0):=by
 refine kN Tryz.func349 rfl 8 rfl rfl fun fr r hB=>?_;refine I0 ?_
 refine kX 23 (z6 (ac a0)) r rfl rfl fun b1 w2 n3 r=>?_;obtain ⟨eb1,zw2,hb1,hB,zB⟩:=n3.all hB
 refine ah (.cells (kq cv) 318 (0,0)) r (fun R=>ag ku) rfl fun fr b4 w5 n6 r=>?_;have hb1:=keep n6.below hb1
 obtain ⟨eb4,zw5,Jc,hB,zB⟩:=n6.all hB;refine wn (I0 (kG (ac a0) 6 r rfl hb1 IJ rfl rfl fun r=>kM (I a1) r rfl rfl fun r=>?_));have I4:=aP hF hB b4
 refine kD r ((BV (k:=j) (n:=n) O) (kW F w0 w5 b4) _ I4 a0 a1 0) rfl xH rfl fun w7 v8 hb hr9 r=>?_;have zw7:=hb.size
 have hb1:=keep hb hb1;have Jc:=keep hb Jc;obtain ⟨hB,zB⟩:=IQ hb hB;refine kP r hr9.shape rfl rfl Jc iw rfl rfl fun J8 JG r=>?_;have zw10:=JG.size
 have hb1:=JG.keep hb1 O
 have Jc:=JG.at_;obtain ⟨hB,zB⟩:=JG.on hB O
 exact wn (q4 (kR r hr9 rfl rfl Jc rfl iy hF hB JG O O O))
def D.fC (a0:Plan) (a1:Int) (a2:Int) (a3:Int):T Unit:=(D.lS (D.fO a0 a1 a2) (D.iN a3))
theorem qz (hF:kH F w0)
    (a0:Plan) (a1:Int) (a2:Int) (a3:Int) :
    Calls B0 229 #[z6 (ac a0),.int .i64 a1,.int .i64 a2,.int .i64 a3] w0 (aH B0 aD n (D.fC a0 a1 a2 a3) F w0):=by
 refine kN Tryz.func229 rfl 16 rfl rfl fun fr r hB=>?_;refine I0 ?_
 refine kX 23 (z6 (ac a0)) r rfl rfl fun b1 w2 n3 r=>?_;obtain ⟨eb1,zw2,hb1,hB,zB⟩:=n3.all hB
 refine ah (.cells (kq aD) 133 (0,0)) r (fun R=>ag dF) rfl fun fr b4 w5 n6 r=>?_;have hb1:=keep n6.below hb1
 obtain ⟨eb4,zw5,Jc,hB,zB⟩:=n6.all hB;refine wn (I0 (kG (ac a0) 6 r rfl hb1 IJ rfl rfl fun r=>kM (I a1) r rfl rfl fun r=>kM (I a2) r rfl rfl fun r=>?_));refine kE r (tC w5 a0 a1 a2) rfl yF rfl fun w7 hb r=>?_
 have zw7:=hb.size;have hb1:=keep hb hb1;have Jc:=keep hb Jc;obtain ⟨hB,zB⟩:=IQ hb hB;refine kM (I a3) r rfl rfl fun r=>?_;refine kE r (ur w7 a3) rfl yx rfl fun w8 hb r=>?_
 have zw8:=hb.size;have hb1:=keep hb hb1;have Jc:=keep hb Jc;obtain ⟨hB,zB⟩:=IQ hb hB;have I4:=aP hF hB b4;refine kD r (uT (F:=(kW F w0 w8 b4)) (n:=n) I4 (D.fO a0 a1 a2) (D.iN a3)) rfl yq rfl fun w9 v10 hb hr11 r=>?_;have zw9:=hb.size
 have hb1:=keep hb hb1;have Jc:=keep hb Jc;obtain ⟨hB,zB⟩:=IQ hb hB;refine kP r hr11.shape rfl rfl Jc db rfl rfl fun w12 u13 r=>?_;have zw12:=u13.size
 have hb1:=u13.keep hb1 O
 have Jc:=u13.at_;obtain ⟨hB,zB⟩:=u13.on hB O
 exact wn (q4 (kR r hr11 rfl rfl Jc rfl cT hF hB u13 O O O))
def D.lg (H2:Plan->Int->Int->Int->Int->Int->T Int) (c0:Int) (c1:Plan) (c2:Int) (c3:Int) (c4:Int) (c5:Int) (a0:Int):T Int:=(bif (a0==c0) then (D.ld c0) else (H2 c1 c2 c3 c4 c5 a0))
def D.nD (H2:Plan->Int->Int->Int->Int->Int->T Int) (c0:Int) (c1:Int) (c2:Plan) (c3:Int) (c4:Int) (c5:Int):T Int:=(D.ny c0 (fun x=>(D.lg H2 c1 c2 c3 c4 c0 c5 x)))
def D.iE (H2:Plan->Int->Int->Int->Int->Int->T Int) (a0:Plan) (a1:Int) (a2:Int) (a3:Int) (a4:Int) (a5:Int):T Int:=(bif (decide ((IntKind.i64.wrap ((IntKind.i64.wrap (KK .u64 a5 a4)) - 1))<0)) then (D.ld a5) else (T.bind (D.fC a0 a1 a2 (IntKind.i64.wrap ((IntKind.i64.wrap (KK .u64 a5 a4)) - 1))) (fun _=>(D.nD H2 a3 a5 a0 a1 a2 a4))))
def D.fS:Nat->Plan->Int->Int->Int->Int->Int->T Int
 | 0,_,_,_,_,_,_=>.cut
 | k+1,a0,a1,a2,a3,a4,a5=>D.iE (D.fS k) a0 a1 a2 a3 a4 a5
def mZ (r:Plan->Int->Int->Int->Int->Int->T Int) (n:Nat):Prop:=∀ (F:Nat->Prop) (w0:World),(∀ b,F b->b<w0.heap.size)->∀ (a0:Plan) (a1:Int) (a2:Int) (a3:Int) (a4:Int) (a5:Int) (_:0<=a4),Calls B0 315 #[z6 (ac a0),.int .i64 a1,.int .i64 a2,.int .i64 a3,.int .i64 a4,.int .u64 a5] w0 (aH B0 bK n (r a0 a1 a2 a3 a4 a5) F w0)
theorem Au {H2:Plan->Int->Int->Int->Int->Int->T Int} (hF:kH F w0) (HV:∀ m,m<=n->mZ H2 m)
    (c0:Int) {I5:Nat} (J9:F I5) (I3:w0.heap[I5]?=some (.cells ([(.int .u64 c0)]).toArray 34 (0,0))) (c1:Plan) {IE:Nat} (Ka:F IE) (IA:w0.heap[IE]?=some (.cells ((ac c1)).toArray 23 (0,0))) (c2:Int) {IU:Nat} (c2F:F IU) (IR:w0.heap[IU]?=some (.cells ([(.int .i64 c2)]).toArray 3 (0,0))) (c3:Int) {Jr:Nat} (c3F:F Jr) (JB:w0.heap[Jr]?=some (.cells ([(.int .i64 c3)]).toArray 3 (0,0))) (c4:Int) {KG:Nat} (c4F:F KG) (c4h:w0.heap[KG]?=some (.cells ([(.int .i64 c4)]).toArray 3 (0,0))) (c5:Int) {c5b:Nat} (c5F:F c5b) (c5h:w0.heap[c5b]?=some (.cells ([(.int .i64 c5)]).toArray 3 (0,0))) (a0:Int) (pre0:0<=c5) :
    Calls B0 362 #[.int .u64 a0,zp I5,zp IE,zp IU,zp Jr,zp KG,zp c5b] w0 (aH B0 bK n (D.lg H2 c0 c1 c2 c3 c4 c5 a0) F w0):=by
 refine kN Tryz.func362 rfl 21 rfl rfl fun fr r hB=>?_;have Jq:=q8 I3
 have Jy:=q8 IA;have Kg:=q8 IR;have KY:=q8 JB;have lc4b:=q8 c4h;have lc5b:=q8 c5h;refine I0 ?_;refine ah (.cells (kq bK) 271 (0,0)) r (fun R=>ag fj) rfl fun fr b1 w2 n3 r=>?_;obtain ⟨eb1,zw2,hb1,hB,zB⟩:=n3.all hB
 refine wn (d9 (I0 (kM (U a0) r rfl rfl fun r=>kL (U c0) r rfl (keep hB I3) Ja rfl rfl fun r=>kB r rfl rfl rfl rfl rfl fun r=>wn ?_)));refine q5 (t:=(a0==c0)) (r.ev rfl) (fun h4=>?_) (fun h4=>?_)
 ·
  refine I0 (kL (U c0) r rfl (keep hB I3) Ja rfl rfl fun r=>?_);have I4:=aP hF hB b1
  refine kD r (tD (F:=(kW F w0 w2 b1)) (n:=n) I4 c0) rfl yl rfl fun w5 v6 hb Kj r=>?_;have zw5:=hb.size
  have hb1:=keep hb hb1;obtain ⟨hB,zB⟩:=IQ hb hB;refine kP r Kj.shape rfl rfl hb1 eL rfl rfl fun w8 u9 r=>?_;have zw8:=u9.size
  have hb1:=u9.at_;obtain ⟨hB,zB⟩:=u9.on hB O
  refine wn (q4 ?_);have hd:D.lg H2 c0 c1 c2 c3 c4 c5 a0=(D.ld c0):=(ar h4).trans (rfl);have hs:=Kj.shape.cells;refine ak r rfl rfl hb1 (k:=7) hs.1 eK ?_;rw [<-hs.2.2,hd];exact JR hF hB Kj u9 O O O
 refine q7 (I0 (kG (ac c1) 6 r rfl (keep hB IA) IJ rfl rfl fun r=>kL (I c2) r rfl (keep hB IR) IL rfl rfl fun r=>kL (I c3) r rfl (keep hB JB) IL rfl rfl fun r=>kL (I c4) r rfl (keep hB c4h) IL rfl rfl fun r=>kL (I c5) r rfl (keep hB c5h) IL rfl rfl fun r=>kM (U a0) r rfl rfl fun r=>?_));have I4:=aP hF hB b1
 refine kD r ((HV n O) (kW F w0 w2 b1) _ I4 c1 c2 c3 c4 c5 a0 yax) rfl yn rfl fun J8 v11 hb Jl r=>?_;have zw10:=hb.size
 have hb1:=keep hb hb1;obtain ⟨hB,zB⟩:=IQ hb hB;refine kP r Jl.shape rfl rfl hb1 eL rfl rfl fun Kc Kr r=>?_;have zw13:=Kr.size
 have hb1:=Kr.at_;obtain ⟨hB,zB⟩:=Kr.on hB O
 refine wn (q4 ?_);have hd:D.lg H2 c0 c1 c2 c3 c4 c5 a0=(H2 c1 c2 c3 c4 c5 a0):=(ai h4).trans (rfl);have hs:=Jl.shape.cells;refine ak r rfl rfl hb1 (k:=7) hs.1 eK ?_;rw [<-hs.2.2,hd];exact JR hF hB Jl Kr O O O
theorem Ba {H2:Plan->Int->Int->Int->Int->Int->T Int} (hF:kH F w0) (HV:∀ m,m<n->mZ H2 m)
    (c0:Int) {I5:Nat} (J9:F I5) (I3:w0.heap[I5]?=some (.cells ([(.int .i64 c0)]).toArray 3 (0,0))) (c1:Int) {IE:Nat} (Ka:F IE) (IA:w0.heap[IE]?=some (.cells ([(.int .u64 c1)]).toArray 34 (0,0))) (c2:Plan) {IU:Nat} (c2F:F IU) (IR:w0.heap[IU]?=some (.cells ((ac c2)).toArray 23 (0,0))) (c3:Int) {Jr:Nat} (c3F:F Jr) (JB:w0.heap[Jr]?=some (.cells ([(.int .i64 c3)]).toArray 3 (0,0))) (c4:Int) {KG:Nat} (c4F:F KG) (c4h:w0.heap[KG]?=some (.cells ([(.int .i64 c4)]).toArray 3 (0,0))) (c5:Int) {c5b:Nat} (c5F:F c5b) (c5h:w0.heap[c5b]?=some (.cells ([(.int .i64 c5)]).toArray 3 (0,0))) (pre0:0<=c5) :
    Calls B0 361 #[.agg #[],zp I5,zp IE,zp IU,zp Jr,zp KG,zp c5b] w0 (aH B0 bK n (D.nD H2 c0 c1 c2 c3 c4 c5) F w0):=by
 refine kN Tryz.func361 rfl 12 rfl rfl fun fr r hB=>?_;have Jq:=q8 I3
 have Jy:=q8 IA;have Kg:=q8 IR;have KY:=q8 JB;have lc4b:=q8 c4h;have lc5b:=q8 c5h;refine I0 ?_;refine kX 128 (.agg #[]) r rfl rfl fun b1 w2 n3 r=>?_;obtain ⟨eb1,zw2,hb1,hB,zB⟩:=n3.all hB
 refine ah (.cells (kq bK) 271 (0,0)) r (fun R=>ag fj) rfl fun fr b4 w5 n6 r=>?_;have hb1:=keep n6.below hb1
 obtain ⟨eb4,zw5,Jc,hB,zB⟩:=n6.all hB;refine wn (I0 (kL (I c0) r rfl (keep hB I3) IL rfl rfl fun r=>aa (.func (.func 362) #[] #[zp IE,zp IU,zp Jr,zp KG,zp I5,zp c5b]) r (fun R=>aZ r rfl) rfl fun fr r=>?_));have I4:=aP hF hB b4
 have f7:((kW F w0 w5 b4)) IE:=(.inl Ka);have f8:((kW F w0 w5 b4)) IU:=(.inl c2F);have f9:((kW F w0 w5 b4)) Jr:=(.inl c3F);have f10:((kW F w0 w5 b4)) KG:=(.inl c4F);have f11:((kW F w0 w5 b4)) I5:=(.inl J9);have f12:((kW F w0 w5 b4)) c5b:=(.inl c5F);refine kD r (tF (F:=(kW F w0 w5 b4)) (n:=n) I4 c0 ⟨362,[],[zp IE,zp IU,zp Jr,zp KG,zp I5,zp c5b],Gg,rfl,fun m hm x w' hs hz=>Au (fun b hb=>q9 (I4 b hb) hz) (fun m' hm'=>HV m' O) c1 f7 (hs.at_ f7 (keep hB IA)) c2 f8 (hs.at_ f8 (keep hB IR)) c3 f9 (hs.at_ f9 (keep hB JB)) c4 f10 (hs.at_ f10 (keep hB c4h)) c0 f11 (hs.at_ f11 (keep hB I3)) c5 f12 (hs.at_ f12 (keep hB c5h)) x yax⟩) rfl xT rfl fun Kc K6 hb Kf r=>?_;have zw13:=hb.size
 have hb1:=keep hb hb1;have Jc:=keep hb Jc;obtain ⟨hB,zB⟩:=IQ hb hB;refine kP r Kf.shape rfl rfl Jc eL rfl rfl fun w16 K3 r=>?_;have zw16:=K3.size
 have hb1:=K3.keep hb1 O
 have Jc:=K3.at_;obtain ⟨hB,zB⟩:=K3.on hB O
 exact wn (q4 (kR r Kf rfl rfl Jc rfl eK hF hB K3 O O O))
theorem BN {n:Nat} {F:Nat->Prop} {H2:Plan->Int->Int->Int->Int->Int->T Int} {w0:World} (hF:∀ b,F b->b<w0.heap.size) (HV:∀ m,m<n->mZ H2 m)
    (a0:Plan) (a1:Int) (a2:Int) (a3:Int) (a4:Int) (a5:Int) (pre0:0<=a4) :
    Calls B0 315 #[z6 (ac a0),.int .i64 a1,.int .i64 a2,.int .i64 a3,.int .i64 a4,.int .u64 a5] w0 (aH B0 bK n (D.iE H2 a0 a1 a2 a3 a4 a5) F w0):=by
 refine kN Tryz.func315 rfl 30 rfl rfl fun fr r hB=>?_;refine I0 ?_
 refine kX 23 (z6 (ac a0)) r rfl rfl fun b1 w2 n3 r=>?_;obtain ⟨eb1,zw2,hb1,hB,zB⟩:=n3.all hB
 refine kX 3 (I a1) r rfl rfl fun b4 w5 n6 r=>?_;have hb1:=keep n6.below hb1
 obtain ⟨eb4,zw5,Jc,hB,zB⟩:=n6.all hB;refine kX 3 (I a2) r rfl rfl fun b7 w8 n9 r=>?_;have hb1:=keep n9.below hb1
 have Jc:=keep n9.below Jc;obtain ⟨eb7,zw8,JA,hB,zB⟩:=n9.all hB;refine kX 3 (I a3) r rfl rfl fun b10 JV JN r=>?_;have hb1:=keep JN.below hb1
 have Jc:=keep JN.below Jc;have JA:=keep JN.below JA;obtain ⟨eb10,zw11,J3,hB,zB⟩:=JN.all hB;refine kX 3 (I a4) r rfl rfl fun b13 w14 n15 r=>?_;have hb1:=keep n15.below hb1
 have Jc:=keep n15.below Jc;have JA:=keep n15.below JA;have J3:=keep n15.below J3;obtain ⟨eb13,zw14,KP,hB,zB⟩:=n15.all hB;refine kX 34 (U a5) r rfl rfl fun b16 w17 n18 r=>?_;have hb1:=keep n18.below hb1
 have Jc:=keep n18.below Jc;have JA:=keep n18.below JA;have J3:=keep n18.below J3;have KP:=keep n18.below KP;obtain ⟨eb16,zw17,KZ,hB,zB⟩:=n18.all hB;refine ah (.cells (kq bK) 271 (0,0)) r (fun R=>ag fj) rfl fun fr b19 w20 n21 r=>?_;have hb1:=keep n21.below hb1
 have Jc:=keep n21.below Jc;have JA:=keep n21.below JA;have J3:=keep n21.below J3;have KP:=keep n21.below KP;have KZ:=keep n21.below KZ;obtain ⟨eb19,zw20,hb19,hB,zB⟩:=n21.all hB;refine wn (I0 (kL (U a5) r rfl KZ Ja rfl rfl fun r=>kL (I a4) r rfl KP IL rfl rfl fun r=>kB r rfl rfl rfl (rC yax) rfl fun r=>aa (I (W (KK .u64 a5 a4))) r (fun R=>cV r rfl KO ti3) rfl fun fr r=>kB r rfl rfl rfl rfl rfl fun r=>kA (I (W ((W (KK .u64 a5 a4)) - 1))) r rfl rfl fun r=>wn (d9 (I0 (kM (I (W ((W (KK .u64 a5 a4)) - 1))) r rfl rfl fun r=>kB r rfl rfl rfl rfl rfl fun r=>wn ?_)))));refine q5 (t:=(decide ((W ((W (KK .u64 a5 a4)) - 1))<0))) (r.ev rfl) (fun h22=>?_) (fun h22=>?_)
 ·
  refine I0 (kL (U a5) r rfl KZ Ja rfl rfl fun r=>?_);have I4:=aP hF hB b19
  refine kD r (tD (F:=(kW F w0 w20 b19)) (n:=n) I4 a5) rfl yl rfl fun w23 KH hb hr25 r=>?_;have zw23:=hb.size
  have hb1:=keep hb hb1;have Jc:=keep hb Jc;have JA:=keep hb JA;have J3:=keep hb J3;have KP:=keep hb KP;have KZ:=keep hb KZ;have hb19:=keep hb hb19;obtain ⟨hB,zB⟩:=IQ hb hB;refine kP r hr25.shape rfl rfl hb19 eL rfl rfl fun w26 u27 r=>?_;have zw26:=u27.size
  have hb1:=u27.keep hb1 O
  have Jc:=u27.keep Jc O
  have JA:=u27.keep JA O
  have J3:=u27.keep J3 O
  have KP:=u27.keep KP O
  have KZ:=u27.keep KZ O
  have hb19:=u27.at_;obtain ⟨hB,zB⟩:=u27.on hB O
  refine wn (q4 ?_);have hd:D.iE H2 a0 a1 a2 a3 a4 a5=(D.ld a5):=(ar h22).trans (rfl);have hs:=hr25.shape.cells;refine ak r rfl rfl hb19 (k:=7) hs.1 eK ?_;rw [<-hs.2.2,hd];exact JR hF hB hr25 u27 O O O
 refine q7 (I0 (kG (ac a0) 6 r rfl hb1 IJ rfl rfl fun r=>kL (I a1) r rfl Jc IL rfl rfl fun r=>kL (I a2) r rfl JA IL rfl rfl fun r=>kM (I (W ((W (KK .u64 a5 a4)) - 1))) r rfl rfl fun r=>?_));have I4:=aP hF hB b19
 refine kD r (qz (F:=(kW F w0 w20 b19)) (n:=n) I4 a0 a1 a2 (W ((W (KK .u64 a5 a4)) - 1))) rfl sB rfl fun w28 v29 hb hr30 r=>?_;have zw28:=hb.size
 have hb1:=keep hb hb1;have Jc:=keep hb Jc;have JA:=keep hb JA;have J3:=keep hb J3;have KP:=keep hb KP;have KZ:=keep hb KZ;have hb19:=keep hb hb19;obtain ⟨hB,zB⟩:=IQ hb hB;refine aa (.func (.func 361) #[] #[zp b10,zp b16,zp b1,zp b4,zp b7,zp b13]) r (fun R=>aZ r rfl) rfl fun fr r=>?_;have I4:=aP hF hB b19
 have f31:((kW F w0 w28 b19)) b10:=(.inr ⟨O,O,O⟩)
 have f32:((kW F w0 w28 b19)) b16:=(.inr ⟨O,O,O⟩)
 have f33:((kW F w0 w28 b19)) b1:=(.inr ⟨O,O,O⟩)
 have f34:((kW F w0 w28 b19)) b4:=(.inr ⟨O,O,O⟩)
 have f35:((kW F w0 w28 b19)) b7:=(.inr ⟨O,O,O⟩)
 have f36:((kW F w0 w28 b19)) b13:=(.inr ⟨O,O,O⟩)
 refine kD r (yT (F:=(kW F w0 w28 b19)) (n:=n) I4 (Jm.mono yae (I8.refl _ _) O n _ _ hr30) ⟨361,[],[zp b10,zp b16,zp b1,zp b4,zp b7,zp b13],Fy,rfl,fun m hm _ w' hs hz=>Ba (fun b hb=>q9 (I4 b hb) hz) (fun m' hm'=>HV m' O) a3 f31 (hs.at_ f31 J3) a5 f32 (hs.at_ f32 KZ) a0 f33 (hs.at_ f33 hb1) a1 f34 (hs.at_ f34 Jc) a2 f35 (hs.at_ f35 JA) a4 f36 (hs.at_ f36 KP) yax⟩) rfl xp rfl fun w37 v38 hb hr39 r=>?_
 have zw37:=hb.size;have hb1:=keep hb hb1;have Jc:=keep hb Jc;have JA:=keep hb JA;have J3:=keep hb J3;have KP:=keep hb KP;have KZ:=keep hb KZ;have hb19:=keep hb hb19;obtain ⟨hB,zB⟩:=IQ hb hB;refine kP r hr39.shape rfl rfl hb19 eL rfl rfl fun w40 u41 r=>?_;have zw40:=u41.size
 have hb1:=u41.keep hb1 O
 have Jc:=u41.keep Jc O
 have JA:=u41.keep JA O
 have J3:=u41.keep J3 O
 have KP:=u41.keep KP O
 have KZ:=u41.keep KZ O
 have hb19:=u41.at_;obtain ⟨hB,zB⟩:=u41.on hB O
 refine wn (q4 ?_);have hd:D.iE H2 a0 a1 a2 a3 a4 a5=(T.bind (D.fC a0 a1 a2 (W ((W (KK .u64 a5 a4)) - 1))) (fun _=>(D.nD H2 a3 a5 a0 a1 a2 a4))):=(ai h22).trans (rfl)
 have hs:=hr39.shape.cells;refine ak r rfl rfl hb19 (k:=7) hs.1 eK ?_;rw [<-hs.2.2,hd];exact JR hF hB hr39 u41 O O O
theorem BQ {n:Nat} {k:Nat} (hk:n<k):mZ (D.fS k) n:=by
 induction n using Nat.strongRecOn generalizing k with
 | _ n ih=>
  obtain ⟨k,rfl⟩:∃ q,k=q+1:=⟨k - 1,O⟩
  intro F w0 hF;have h:=@BN n F (D.fS k) w0 hF (fun m hm=>ih m hm O)
  exact h
def D.nF (j:Nat) (c0:Plan) (c1:Int) (c2:Int) (c3:Int) (c4:Int) (a0:Int):T Int:=(D.fS j c0 c1 c2 c3 c4 a0)
theorem Bb (hF:kH F w0) (hj:n<j)
    (c0:Plan) {I5:Nat} (J9:F I5) (I3:w0.heap[I5]?=some (.cells ((ac c0)).toArray 23 (0,0))) (c1:Int) {IE:Nat} (Ka:F IE) (IA:w0.heap[IE]?=some (.cells ([(.int .i64 c1)]).toArray 3 (0,0))) (c2:Int) {IU:Nat} (c2F:F IU) (IR:w0.heap[IU]?=some (.cells ([(.int .i64 c2)]).toArray 3 (0,0))) (c3:Int) {Jr:Nat} (c3F:F Jr) (JB:w0.heap[Jr]?=some (.cells ([(.int .i64 c3)]).toArray 3 (0,0))) (c4:Int) {KG:Nat} (c4F:F KG) (c4h:w0.heap[KG]?=some (.cells ([(.int .i64 c4)]).toArray 3 (0,0))) (a0:Int) (pre0:0<=c4) :
    Calls B0 314 #[.int .u64 a0,zp I5,zp IE,zp IU,zp Jr,zp KG] w0 (aH B0 bK n (D.nF j c0 c1 c2 c3 c4 a0) F w0):=by
 refine kN Tryz.func314 rfl 15 rfl rfl fun fr r hB=>?_;have Jq:=q8 I3
 have Jy:=q8 IA;have Kg:=q8 IR;have KY:=q8 JB;have lc4b:=q8 c4h;refine I0 ?_;refine ah (.cells (kq bK) 271 (0,0)) r (fun R=>ag fj) rfl fun fr b1 w2 n3 r=>?_;obtain ⟨eb1,zw2,hb1,hB,zB⟩:=n3.all hB
 refine wn (I0 (kG (ac c0) 6 r rfl (keep hB I3) IJ rfl rfl fun r=>kL (I c1) r rfl (keep hB IA) IL rfl rfl fun r=>kL (I c2) r rfl (keep hB IR) IL rfl rfl fun r=>kL (I c3) r rfl (keep hB JB) IL rfl rfl fun r=>kL (I c4) r rfl (keep hB c4h) IL rfl rfl fun r=>kM (U a0) r rfl rfl fun r=>?_));have I4:=aP hF hB b1
 refine kD r ((BQ (k:=j) (n:=n) O) (kW F w0 w2 b1) _ I4 c0 c1 c2 c3 c4 a0 yax) rfl yn rfl fun w4 v5 hb J0 r=>?_;have zw4:=hb.size
 have hb1:=keep hb hb1;obtain ⟨hB,zB⟩:=IQ hb hB;refine kP r J0.shape rfl rfl hb1 eL rfl rfl fun w7 u8 r=>?_;have zw7:=u8.size
 have hb1:=u8.at_;obtain ⟨hB,zB⟩:=u8.on hB O
 exact wn (q4 (kR r J0 rfl rfl hb1 rfl eK hF hB u8 O O O))
def D.lA (j:Nat) (a0:Plan) (a1:Int) (a2:Int) (a3:Int) (a4:Int):T Int:=(D.ny a3 (fun x=>(D.nF j a0 a1 a2 a3 a4 x)))
theorem BG (hF:kH F w0) (hj:n<j)
    (a0:Plan) (a1:Int) (a2:Int) (a3:Int) (a4:Int) (pre0:0<=a4) :
    Calls B0 247 #[z6 (ac a0),.int .i64 a1,.int .i64 a2,.int .i64 a3,.int .i64 a4] w0 (aH B0 bK n (D.lA j a0 a1 a2 a3 a4) F w0):=by
 refine kN Tryz.func247 rfl 14 rfl rfl fun fr r hB=>?_;refine I0 ?_
 refine kX 23 (z6 (ac a0)) r rfl rfl fun b1 w2 n3 r=>?_;obtain ⟨eb1,zw2,hb1,hB,zB⟩:=n3.all hB
 refine kX 3 (I a1) r rfl rfl fun b4 w5 n6 r=>?_;have hb1:=keep n6.below hb1
 obtain ⟨eb4,zw5,Jc,hB,zB⟩:=n6.all hB;refine kX 3 (I a2) r rfl rfl fun b7 w8 n9 r=>?_;have hb1:=keep n9.below hb1
 have Jc:=keep n9.below Jc;obtain ⟨eb7,zw8,JA,hB,zB⟩:=n9.all hB;refine kX 3 (I a3) r rfl rfl fun b10 JV JN r=>?_;have hb1:=keep JN.below hb1
 have Jc:=keep JN.below Jc;have JA:=keep JN.below JA;obtain ⟨eb10,zw11,J3,hB,zB⟩:=JN.all hB;refine kX 3 (I a4) r rfl rfl fun b13 w14 n15 r=>?_;have hb1:=keep n15.below hb1
 have Jc:=keep n15.below Jc;have JA:=keep n15.below JA;have J3:=keep n15.below J3;obtain ⟨eb13,zw14,KP,hB,zB⟩:=n15.all hB;refine ah (.cells (kq bK) 271 (0,0)) r (fun R=>ag fj) rfl fun fr b16 w17 n18 r=>?_;have hb1:=keep n18.below hb1
 have Jc:=keep n18.below Jc;have JA:=keep n18.below JA;have J3:=keep n18.below J3;have KP:=keep n18.below KP;obtain ⟨eb16,zw17,KZ,hB,zB⟩:=n18.all hB;refine wn (I0 (kL (I a3) r rfl J3 IL rfl rfl fun r=>aa (.func (.func 314) #[] #[zp b1,zp b4,zp b7,zp b10,zp b13]) r (fun R=>aZ r rfl) rfl fun fr r=>?_));have I4:=aP hF hB b16
 have f19:((kW F w0 w17 b16)) b1:=(.inr ⟨O,O,O⟩)
 have f20:((kW F w0 w17 b16)) b4:=(.inr ⟨O,O,O⟩)
 have f21:((kW F w0 w17 b16)) b7:=(.inr ⟨O,O,O⟩)
 have f22:((kW F w0 w17 b16)) b10:=(.inr ⟨O,O,O⟩)
 have f23:((kW F w0 w17 b16)) b13:=(.inr ⟨O,O,O⟩)
 refine kD r (tF (F:=(kW F w0 w17 b16)) (n:=n) I4 a3 ⟨314,[],[zp b1,zp b4,zp b7,zp b10,zp b13],HC,rfl,fun m hm x w' hs hz=>Bb (j:=j) (fun b hb=>q9 (I4 b hb) hz) O a0 f19 (hs.at_ f19 hb1) a1 f20 (hs.at_ f20 Jc) a2 f21 (hs.at_ f21 JA) a3 f22 (hs.at_ f22 J3) a4 f23 (hs.at_ f23 KP) x yax⟩) rfl xT rfl fun w24 v25 hb hr26 r=>?_;have zw24:=hb.size
 have hb1:=keep hb hb1;have Jc:=keep hb Jc;have JA:=keep hb JA;have J3:=keep hb J3;have KP:=keep hb KP;have KZ:=keep hb KZ;obtain ⟨hB,zB⟩:=IQ hb hB;refine kP r hr26.shape rfl rfl KZ eL rfl rfl fun w27 u28 r=>?_;have zw27:=u28.size
 have hb1:=u28.keep hb1 O
 have Jc:=u28.keep Jc O
 have JA:=u28.keep JA O
 have J3:=u28.keep J3 O
 have KP:=u28.keep KP O
 have KZ:=u28.at_;obtain ⟨hB,zB⟩:=u28.on hB O
 exact wn (q4 (kR r hr26 rfl rfl KZ rfl eK hF hB u28 O O O))
def D.lj (HO:Plan->Int->Int->T Unit) (c0:Plan) (c1:Int) (c2:Int):T Unit:=(HO c0 c1 (IntKind.i64.wrap (c2+1)))
def D.gG (HO:Plan->Int->Int->T Unit) (a0:Plan) (a1:Int) (a2:Int):T Unit:=(bif (a2==3) then D.nE else (T.bind (D.fC a0 a1 a2 (-1)) (fun _=>(D.lj HO a0 a1 a2))))
def D.gP:Nat->Plan->Int->Int->T Unit
 | 0,_,_,_=>.cut
 | k+1,a0,a1,a2=>D.gG (D.gP k) a0 a1 a2
def pT (r:Plan->Int->Int->T Unit) (n:Nat):Prop:=∀ (F:Nat->Prop) (w0:World),(∀ b,F b->b<w0.heap.size)->∀ (a0:Plan) (a1:Int) (a2:Int),Calls B0 304 #[z6 (ac a0),.int .i64 a1,.int .i64 a2] w0 (aH B0 aD n (r a0 a1 a2) F w0)
theorem Bd {HO:Plan->Int->Int->T Unit} (hF:kH F w0) (Ij:∀ m,m<=n->pT HO m)
    (c0:Plan) {I5:Nat} (J9:F I5) (I3:w0.heap[I5]?=some (.cells ((ac c0)).toArray 23 (0,0))) (c1:Int) {IE:Nat} (Ka:F IE) (IA:w0.heap[IE]?=some (.cells ([(.int .i64 c1)]).toArray 3 (0,0))) (c2:Int) {IU:Nat} (c2F:F IU) (IR:w0.heap[IU]?=some (.cells ([(.int .i64 c2)]).toArray 3 (0,0))) :
    Calls B0 353 #[.agg #[],zp I5,zp IE,zp IU] w0 (aH B0 aD n (D.lj HO c0 c1 c2) F w0):=by
 refine kN Tryz.func353 rfl 11 rfl rfl fun fr r hB=>?_;have Jq:=q8 I3
 have Jy:=q8 IA;have Kg:=q8 IR;refine I0 ?_;refine kX 128 (.agg #[]) r rfl rfl fun b1 w2 n3 r=>?_;obtain ⟨eb1,zw2,hb1,hB,zB⟩:=n3.all hB
 refine ah (.cells (kq aD) 133 (0,0)) r (fun R=>ag dF) rfl fun fr b4 w5 n6 r=>?_;have hb1:=keep n6.below hb1
 obtain ⟨eb4,zw5,Jc,hB,zB⟩:=n6.all hB;refine wn (I0 (kG (ac c0) 6 r rfl (keep hB I3) IJ rfl rfl fun r=>kL (I c1) r rfl (keep hB IA) IL rfl rfl fun r=>kL (I c2) r rfl (keep hB IR) IL rfl rfl fun r=>kB r rfl rfl rfl rfl rfl fun r=>?_));have I4:=aP hF hB b4
 refine kD r ((Ij n O) (kW F w0 w5 b4) _ I4 c0 c1 (W (c2+1))) rfl ym rfl fun w7 v8 hb hr9 r=>?_;have zw7:=hb.size
 have hb1:=keep hb hb1;have Jc:=keep hb Jc;obtain ⟨hB,zB⟩:=IQ hb hB;refine kP r hr9.shape rfl rfl Jc db rfl rfl fun J8 JG r=>?_;have zw10:=JG.size
 have hb1:=JG.keep hb1 O
 have Jc:=JG.at_;obtain ⟨hB,zB⟩:=JG.on hB O
 exact wn (q4 (kR r hr9 rfl rfl Jc rfl cT hF hB JG O O O))
theorem BM {n:Nat} {F:Nat->Prop} {HO:Plan->Int->Int->T Unit} {w0:World} (hF:∀ b,F b->b<w0.heap.size) (Ij:∀ m,m<n->pT HO m)
    (a0:Plan) (a1:Int) (a2:Int) :
    Calls B0 304 #[z6 (ac a0),.int .i64 a1,.int .i64 a2] w0 (aH B0 aD n (D.gG HO a0 a1 a2) F w0):=by
 refine kN Tryz.func304 rfl 17 rfl rfl fun fr r hB=>?_;refine I0 ?_
 refine kX 23 (z6 (ac a0)) r rfl rfl fun b1 w2 n3 r=>?_;obtain ⟨eb1,zw2,hb1,hB,zB⟩:=n3.all hB
 refine kX 3 (I a1) r rfl rfl fun b4 w5 n6 r=>?_;have hb1:=keep n6.below hb1
 obtain ⟨eb4,zw5,Jc,hB,zB⟩:=n6.all hB;refine kX 3 (I a2) r rfl rfl fun b7 w8 n9 r=>?_;have hb1:=keep n9.below hb1
 have Jc:=keep n9.below Jc;obtain ⟨eb7,zw8,JA,hB,zB⟩:=n9.all hB;refine ah (.cells (kq aD) 133 (0,0)) r (fun R=>ag dF) rfl fun fr b10 JV JN r=>?_;have hb1:=keep JN.below hb1
 have Jc:=keep JN.below Jc;have JA:=keep JN.below JA;obtain ⟨eb10,zw11,J3,hB,zB⟩:=JN.all hB;refine wn (d9 (I0 (kL (I a2) r rfl JA IL rfl rfl fun r=>kB r rfl rfl rfl rfl rfl fun r=>wn ?_)));refine q5 (t:=(a2==3)) (r.ev rfl) (fun J6=>?_) (fun J6=>?_)
 ·
  refine I0 (kU (.agg #[]) r kz rfl fun r=>?_);have I4:=aP hF hB b10
  refine kD r (tR (F:=(kW F w0 JV b10)) (n:=n) I4 ) rfl yK rfl fun w14 JF hb KM r=>?_;have zw14:=hb.size
  have hb1:=keep hb hb1;have Jc:=keep hb Jc;have JA:=keep hb JA;have J3:=keep hb J3;obtain ⟨hB,zB⟩:=IQ hb hB;refine kP r KM.shape rfl rfl J3 db rfl rfl fun w17 K7 r=>?_;have zw17:=K7.size
  have hb1:=K7.keep hb1 O
  have Jc:=K7.keep Jc O
  have JA:=K7.keep JA O
  have J3:=K7.at_;obtain ⟨hB,zB⟩:=K7.on hB O
  refine wn (q4 ?_);have hd:D.gG HO a0 a1 a2=D.nE:=(ar J6).trans (rfl);have hs:=KM.shape.cells;refine ak r rfl rfl J3 (k:=6) hs.1 cT ?_;rw [<-hs.2.2,hd];exact JR hF hB KM K7 O O O
 refine q7 (I0 (kG (ac a0) 6 r rfl hb1 IJ rfl rfl fun r=>kL (I a1) r rfl Jc IL rfl rfl fun r=>kL (I a2) r rfl JA IL rfl rfl fun r=>?_));have I4:=aP hF hB b10
 refine kD r (qz (F:=(kW F w0 JV b10)) (n:=n) I4 a0 a1 a2 (-1)) rfl sB rfl fun w19 v20 hb hr21 r=>?_;have zw19:=hb.size
 have hb1:=keep hb hb1;have Jc:=keep hb Jc;have JA:=keep hb JA;have J3:=keep hb J3;obtain ⟨hB,zB⟩:=IQ hb hB;refine aa (.func (.func 353) #[] #[zp b1,zp b4,zp b7]) r (fun R=>aZ r rfl) rfl fun fr r=>?_;have I4:=aP hF hB b10
 have f22:((kW F w0 w19 b10)) b1:=(.inr ⟨O,O,O⟩)
 have f23:((kW F w0 w19 b10)) b4:=(.inr ⟨O,O,O⟩)
 have f24:((kW F w0 w19 b10)) b7:=(.inr ⟨O,O,O⟩)
 refine kD r (zg (F:=(kW F w0 w19 b10)) (n:=n) I4 (Jm.mono yae (I8.refl _ _) O n _ _ hr21) ⟨353,[],[zp b1,zp b4,zp b7],Gr,rfl,fun m hm _ w' hs hz=>Bd (fun b hb=>q9 (I4 b hb) hz) (fun m' hm'=>Ij m' O) a0 f22 (hs.at_ f22 hb1) a1 f23 (hs.at_ f23 Jc) a2 f24 (hs.at_ f24 JA)⟩ rfl) rfl xw rfl fun w25 v26 hb hr27 r=>?_
 have zw25:=hb.size;have hb1:=keep hb hb1;have Jc:=keep hb Jc;have JA:=keep hb JA;have J3:=keep hb J3;obtain ⟨hB,zB⟩:=IQ hb hB;refine kP r hr27.shape rfl rfl J3 db rfl rfl fun w28 u29 r=>?_;have zw28:=u29.size
 have hb1:=u29.keep hb1 O
 have Jc:=u29.keep Jc O
 have JA:=u29.keep JA O
 have J3:=u29.at_;obtain ⟨hB,zB⟩:=u29.on hB O
 refine wn (q4 ?_);have hd:D.gG HO a0 a1 a2=(T.bind (D.fC a0 a1 a2 (-1)) (fun _=>(D.lj HO a0 a1 a2))):=(ai J6).trans (rfl)
 have hs:=hr27.shape.cells;refine ak r rfl rfl J3 (k:=6) hs.1 cT ?_;rw [<-hs.2.2,hd];exact JR hF hB hr27 u29 O O O
theorem BO {n:Nat} {k:Nat} (hk:n<k):pT (D.gP k) n:=by
 induction n using Nat.strongRecOn generalizing k with
 | _ n ih=>
  obtain ⟨k,rfl⟩:∃ q,k=q+1:=⟨k - 1,O⟩
  intro F w0 hF;have h:=@BM n F (D.gP k) w0 hF (fun m hm=>ih m hm O)
  exact h
def D.nP (j:Nat) (a0:Plan) (a1:Int):T Unit:=(D.gP j a0 a1 0)
theorem uc (hF:kH F w0) (hj:n<j)
    (a0:Plan) (a1:Int) :
    Calls B0 238 #[z6 (ac a0),.int .i64 a1] w0 (aH B0 aD n (D.nP j a0 a1) F w0):=by
 refine kN Tryz.func238 rfl 8 rfl rfl fun fr r hB=>?_;refine I0 ?_
 refine kX 23 (z6 (ac a0)) r rfl rfl fun b1 w2 n3 r=>?_;obtain ⟨eb1,zw2,hb1,hB,zB⟩:=n3.all hB
 refine ah (.cells (kq aD) 133 (0,0)) r (fun R=>ag dF) rfl fun fr b4 w5 n6 r=>?_;have hb1:=keep n6.below hb1
 obtain ⟨eb4,zw5,Jc,hB,zB⟩:=n6.all hB;refine wn (I0 (kG (ac a0) 6 r rfl hb1 IJ rfl rfl fun r=>kM (I a1) r rfl rfl fun r=>?_));have I4:=aP hF hB b4
 refine kD r ((BO (k:=j) (n:=n) O) (kW F w0 w5 b4) _ I4 a0 a1 0) rfl ym rfl fun w7 v8 hb hr9 r=>?_;have zw7:=hb.size
 have hb1:=keep hb hb1;have Jc:=keep hb Jc;obtain ⟨hB,zB⟩:=IQ hb hB;refine kP r hr9.shape rfl rfl Jc db rfl rfl fun J8 JG r=>?_;have zw10:=JG.size
 have hb1:=JG.keep hb1 O
 have Jc:=JG.at_;obtain ⟨hB,zB⟩:=JG.on hB O
 exact wn (q4 (kR r hr9 rfl rfl Jc rfl cT hF hB JG O O O))
end
theorem Gf:af B0 115:=kz
theorem cl19:af B0 19:=kz
theorem cl65:af B0 65:=kz
theorem yo:sized B0 128 0:=kz
theorem ts36:sized B0 36 2:=kz
theorem yC:zeroOf B0 128=some (.agg #[]):=kz
theorem tz36:zeroOf B0 36=some (z6 (ID (⟨0,0⟩:IM))):=kz
def D.pL (fu:Nat) (a0:Nat × T Unit) (a1:Mem) (a2:Cap):Option ((Nat × T Unit) × Bool × Mem):=(bif a0.2.bC then (some (a0,false,a1)) else ((D.gL fu a1 a2 (T.acc a0.2)).bind (fun (Kd:Int × Bool × Mem)=>(bif (!Kd.2.1) then (some (a0,false,Kd.2.2)) else ((depthI a0.1).bind (fun (Ky:Nat)=>(some ((Ky,T.next a0.2 Kd.1),true,Kd.2.2))))))))
theorem zL {fu:Nat} (w0:World) {Ji:Value} {Kz:List Nat} (a0:Nat × T Unit) {Jo:MG} (a1:Mem) (a2:Cap) (hS:JY [bT B0 aD a0 Ji Kz,I9 Jo a1] w0) {res:(Nat × T Unit) × Bool × Mem} (hD:D.pL fu a0 a1 a2=some res) :
    Calls B0 115 #[Ji,zp Jo.mb,z6 (IV a2)] w0 (fun e w'=>∃ (v0:Value) (F0:List Nat),e=.returned (.tuple #[v0,(.bool res.2.1)])/\Kv (fun b=>b∈(I9 Jo a1).own) (fun b=>b∈Kz) [I9 Jo res.2.2,bT B0 aD res.1 v0 F0] w0 w'):=by
 refine enter Tryz.func115 rfl 28 rfl rfl fun fr r=>?_;have hP:Post (fun b=>b∈(I9 Jo a1).own) [bT B0 aD a0 Ji Kz,I9 Jo a1] w0 w0:=.start hS (by simp [I9,bT])
 unfold D.pL at hD
 refine I0 ?_;refine kX 133 Ji r rfl rfl fun b1 w2 n3 r=>?_;have hP:Post (fun b=>b∈(I9 Jo a1).own) [bT B0 aD a0 Ji Kz,I9 Jo a1,ae b1 Ji.cells 133] w0 w2:=hP.new n3
 refine kX 52 (z6 (IV a2)) r rfl rfl fun b5 w6 n7 r=>?_;have hP:Post (fun b=>b∈(I9 Jo a1).own) [bT B0 aD a0 Ji Kz,I9 Jo a1,ae b1 Ji.cells 133,ae b5 ((IV a2)).toArray 52] w0 w6:=hP.new n7
 refine ah (.cells (kq aD) 133 (0,0)) r (fun R=>ag dF) rfl fun fr b9 J8 n11 r=>?_;have hP:Post (fun b=>b∈(I9 Jo a1).own) [bT B0 aD a0 Ji Kz,I9 Jo a1,ae b1 Ji.cells 133,ae b5 ((IV a2)).toArray 52,ae b9 (kq aD) 133] w0 J8:=hP.new n11
 refine kA (.bool false) r rfl rfl fun r=>wn (d9 (I0 (aa _ r (fun R=>az r (b:=b1) (o:=0) (k:=0) rfl eX) rfl fun fr r=>kL (.bool a0.2.bC) r rfl (hP.cell (i:=2) rfl) to4 (Jm.jW (hP.prog (i:=0) rfl)) rfl fun r=>wn ?_)));refine q5 (t:=a0.2.bC) (r.ev rfl) (fun J6=>?_) (fun J6=>?_)
 ·
  have hD:=z7 (ar J6) hD;refine I0 (aa Ji r (fun R=>hU r (hP.prog (i:=0) rfl).shape rfl (hP.cell (i:=2) rfl) cT) rfl fun fr r=>?_);refine kP r (hP.prog (i:=0) rfl).shape rfl rfl (hP.cell (i:=4) rfl) db rfl rfl fun w14 u15 r=>?_
  have hP:Post (fun b=>b∈(I9 Jo a1).own) [bT B0 aD a0 Ji Kz,I9 Jo a1,ae b1 Ji.cells 133,ae b5 ((IV a2)).toArray 52,ae b9 Ji.cells 133] w0 w14:=hP.upd (i:=4) rfl u15
  refine kA (.bool false) r rfl rfl fun r=>wn (q4 ?_);have hv:(a0,false,a1)=res:=Option.some.inj hD
  try dsimp only [Exit.then,Exit.inBlock]
  have hs:=(hP.prog (i:=0) rfl).shape.cells;refine fT (fn:=Tryz.f115) r rfl rfl (v':=(.bool false)) rfl (hP.cell (i:=4) rfl) (k:=6) hs.1 cT ?_;rw [<-hs.2.2];subst hv;exact ⟨Ji,Kz,rfl,(hP.pick [1,0] rfl rfl).done (dg rfl (bw (fun b h=>.inl h) cG))⟩
 have hD:=z7 (ai J6) hD;refine q7 (I0 (kM (zp Jo.mb) r rfl rfl fun r=>kG (IV a2) 2 r rfl (hP.cell (i:=3) rfl) ta52 rfl rfl fun r=>aa _ r (fun R=>az r (b:=b1) (o:=0) (k:=1) rfl lZ) rfl fun fr r=>kG (bh (T.acc a0.2)) 4 r rfl (hP.cell (i:=2) rfl) KX (Jm.xm (hP.prog (i:=0) rfl) J6) rfl fun r=>?_));obtain ⟨Kd,hx16,hD⟩:=aG hD
 refine kC r (tW J8 a1 a2 (T.acc a0.2) (hP.sep.pk [1] rfl rfl) hx16) rfl cl65 rfl ?_;rintro _ w17 ⟨rfl,hq⟩;refine ⟨_,rfl,fun fr r=>?_⟩
 have hP:Post (fun b=>b∈(I9 Jo a1).own) [bT B0 aD a0 Ji Kz,I9 Jo Kd.2.2,ae b1 Ji.cells 133,ae b5 ((IV a2)).toArray 52,ae b9 (kq aD) 133] w0 w17:=hP.setN (i:=1) rfl hq
 refine kM (.tuple #[(U Kd.1),(.bool Kd.2.1)]) r rfl rfl fun r=>aa (U Kd.1) r (fun R=>bZ r (vs:=#[(U Kd.1),(.bool Kd.2.1)]) rfl rfl) rfl fun fr r=>aa (.bool Kd.2.1) r (fun R=>bZ r (vs:=#[(U Kd.1),(.bool Kd.2.1)]) rfl rfl) rfl fun fr r=>kA (U Kd.1) r rfl rfl fun r=>kA (.bool Kd.2.1) r rfl rfl fun r=>wn (d9 (I0 (kM (.bool Kd.2.1) r rfl rfl fun r=>aa (.bool (!Kd.2.1)) r (fun R=>JQ r (u:=(.bool Kd.2.1)) rfl rfl) rfl fun fr r=>wn ?_)));refine q5 (t:=(!Kd.2.1)) (r.ev rfl) (fun K4=>?_) (fun K4=>?_)
 ·
  have hD:=z7 (ar K4) hD;refine I0 (aa Ji r (fun R=>hU r (hP.prog (i:=0) rfl).shape rfl (hP.cell (i:=2) rfl) cT) rfl fun fr r=>?_);refine kP r (hP.prog (i:=0) rfl).shape rfl rfl (hP.cell (i:=4) rfl) db rfl rfl fun w19 u20 r=>?_
  have hP:Post (fun b=>b∈(I9 Jo a1).own) [bT B0 aD a0 Ji Kz,I9 Jo Kd.2.2,ae b1 Ji.cells 133,ae b5 ((IV a2)).toArray 52,ae b9 Ji.cells 133] w0 w19:=hP.upd (i:=4) rfl u20
  refine kA (.bool false) r rfl rfl fun r=>wn (q4 ?_);have hv:(a0,false,Kd.2.2)=res:=Option.some.inj hD
  try dsimp only [Exit.then,Exit.inBlock]
  have hs:=(hP.prog (i:=0) rfl).shape.cells;refine fT (fn:=Tryz.f115) r rfl rfl (v':=(.bool false)) rfl (hP.cell (i:=4) rfl) (k:=6) hs.1 cT ?_;rw [<-hs.2.2];subst hv;exact ⟨Ji,Kz,rfl,(hP.pick [1,0] rfl rfl).done (dg rfl (bw (fun b h=>.inl h) cG))⟩
 have hD:=z7 (ai K4) hD;refine q7 (I0 (aa _ r (fun R=>az r (b:=b1) (o:=0) (k:=5) rfl lY) rfl fun fr r=>?_));obtain ⟨nf21,n122,n223,hv24,hk25⟩:=Jm.rB (hP.prog (i:=0) rfl) J6
 refine kL (kf nf21 n122 n223) r rfl (hP.cell (i:=2) rfl) mi hv24 rfl fun r=>kM (U Kd.1) r rfl rfl fun r=>?_;obtain ⟨Ky,hx26,hD⟩:=aG hD
 refine cS r (hk25.at_.2 Ky (by rw [vD hx26]; exact Nat.lt_succ_self _) Kd.1 w17 (I8.refl _ _) (Nat.le_refl _)) (fun R hc=>dM r rfl rfl hk25.at_.1 hc) rfl ?_;rintro _ w27 ⟨v28,rfl,hb,hr29⟩
 refine ⟨_,rfl,fun fr r=>?_⟩
 have zw27:=hP.size;have hP:Post (fun b=>b∈(I9 Jo a1).own) [bT B0 aD a0 Ji Kz,I9 Jo Kd.2.2,ae b1 Ji.cells 133,ae b5 ((IV a2)).toArray 52,ae b9 (kq aD) 133,bT B0 aD (Ky,T.next a0.2 Kd.1) v28 (Kz++rg w17.heap.size w27.heap.size)] w0 w27:=hP.addProgF (k:=0) rfl hb hr29
 refine kP r (hP.prog (i:=5) rfl).shape rfl rfl (hP.cell (i:=4) rfl) db rfl rfl fun w31 u32 r=>?_;have hP:Post (fun b=>b∈(I9 Jo a1).own) [bT B0 aD a0 Ji Kz,I9 Jo Kd.2.2,ae b1 Ji.cells 133,ae b5 ((IV a2)).toArray 52,ae b9 v28.cells 133,bT B0 aD (Ky,T.next a0.2 Kd.1) v28 (Kz++rg w17.heap.size w27.heap.size)] w0 w31:=hP.upd (i:=4) rfl u32
 refine kA (.bool true) r rfl rfl fun r=>wn (q4 ?_);have hv:((Ky,T.next a0.2 Kd.1),true,Kd.2.2)=res:=Option.some.inj hD
 try dsimp only [Exit.then,Exit.inBlock]
 have hs:=(hP.prog (i:=5) rfl).shape.cells;refine fT (fn:=Tryz.f115) r rfl rfl (v':=(.bool true)) rfl (hP.cell (i:=4) rfl) (k:=6) hs.1 cT ?_;rw [<-hs.2.2];subst hv;exact ⟨v28,(Kz++rg w17.heap.size w27.heap.size),rfl,(hP.pick [1,5] rfl rfl).done (dg rfl (bw (fun b h=>(List.mem_append.1 h).elim .inl (fun h=>.inr (by have:=(ez.1 h).1; omega))) cG))⟩
def D.nH (fu:Nat) (a0:Nat × T Unit) (a1:Mem) (a2:Cap) (a3:Int):Option (Unit × Int × Bool × Mem):=(loopThen (fun (IC:Int × Mem × (Nat × T Unit))=>(Option.bind (bif (decide (IC.1<a3)) then (some (!IC.2.2.2.bC)) else (some false)) (fun (x19:Bool)=>(bif x19 then ((D.pL fu IC.2.2 IC.2.1 a2).bind (fun (JE:(Nat × T Unit) × Bool × Mem)=>(bif (!JE.2.1) then (some (Lp.brk (IC.1,JE.2.2,IC.2.2))) else (some (Lp.next ((IntKind.i64.wrap (IC.1+1)),JE.2.2,JE.1)))))) else (some (Lp.brk (IC.1,IC.2.1,IC.2.2))))))) fu (0,a1,a0) (fun (JO:Int × Mem × (Nat × T Unit))=>(some ((),JO.1,JO.2.2.2.bC,JO.2.1))))
theorem Bj {fu:Nat} (w0:World) {Ji:Value} {Kz:List Nat} (a0:Nat × T Unit) {Jo:MG} (a1:Mem) (a2:Cap) (a3:Int) (hS:JY [bT B0 aD a0 Ji Kz,I9 Jo a1] w0) {res:Unit × Int × Bool × Mem} (hD:D.nH fu a0 a1 a2 a3=some res) :
    Calls B0 61 #[Ji,zp Jo.mb,z6 (IV a2),.int .i64 a3] w0 (fun e w'=>e=.returned (.tuple #[(.agg #[]),(.int .i64 res.2.1),(.bool res.2.2.1)])/\Kv (fun b=>b∈(I9 Jo a1).own) No [I9 Jo res.2.2.2] w0 w'):=by
 refine enter Tryz.func61 rfl 39 rfl rfl fun fr r=>?_;have hP:Post (fun b=>b∈(I9 Jo a1).own) [bT B0 aD a0 Ji Kz,I9 Jo a1] w0 w0:=.start hS (by simp [I9,bT])
 unfold D.nH at hD
 refine I0 ?_;refine kX 133 Ji r rfl rfl fun b1 w2 n3 r=>?_;have hP:Post (fun b=>b∈(I9 Jo a1).own) [bT B0 aD a0 Ji Kz,I9 Jo a1,ae b1 Ji.cells 133] w0 w2:=hP.new n3
 refine kX 52 (z6 (IV a2)) r rfl rfl fun b5 w6 n7 r=>?_;have hP:Post (fun b=>b∈(I9 Jo a1).own) [bT B0 aD a0 Ji Kz,I9 Jo a1,ae b1 Ji.cells 133,ae b5 ((IV a2)).toArray 52] w0 w6:=hP.new n7
 refine ah (.cells #[] 128 (0,0)) r (fun R=>ag yC) rfl fun fr b9 J8 n11 r=>?_;have hP:Post (fun b=>b∈(I9 Jo a1).own) [bT B0 aD a0 Ji Kz,I9 Jo a1,ae b1 Ji.cells 133,ae b5 ((IV a2)).toArray 52,ae b9 #[] 128] w0 J8:=hP.new n11
 refine kA (I 0) r rfl rfl fun r=>kA (.bool false) r rfl rfl fun r=>wn (I0 (kA (I 0) r rfl rfl fun r=>wn (d9 ?_)));refine dV (X:=Int × Mem × (Nat × T Unit)) (G:=Value × List Nat) (x0:=(0,a1,a0)) (fun x γ=>[(0,Ji),(1,(zp Jo.mb)),(2,(z6 (IV a2))),(3,(I a3)),(4,(zp b1)),(6,(zp b5)),(8,(zp b9)),(9,(I 0)),(10,(.bool false)),(11,(I x.1))]) (fun x γ w=>Post (fun b=>b∈(I9 Jo a1).own) [bT B0 aD x.2.2 γ.1 γ.2,I9 Jo x.2.1,ae b1 γ.1.cells 133,ae b5 ((IV a2)).toArray 52,ae b9 #[] 128] w0 w) (Ji,Kz) r (kO (kO (aq rfl (aq rfl aJ)))) hP hD ?_ ?_
 ·
  rintro IC γ14 fr w16 g y15 RPy15 nxy15 bky15 rty15 r hP hD;have hP:Post (fun b=>b∈(I9 Jo a1).own) [bT B0 aD IC.2.2 γ14.1 γ14.2,I9 Jo IC.2.1,ae b1 γ14.1.cells 133,ae b5 ((IV a2)).toArray 52,ae b9 #[] 128] w0 w16:=hP
  refine d9 (d9 ?_);refine cR (N:=39) (Y:=Bool) (G:=Unit) (fun x γ=>[(0,Ji),(1,(zp Jo.mb)),(2,(z6 (IV a2))),(3,(I a3)),(4,(zp b1)),(6,(zp b5)),(8,(zp b9)),(9,(I 0)),(10,(.bool false)),(11,(I IC.1)),(21,(.bool x))]) (fun x γ w=>Post (fun b=>b∈(I9 Jo a1).own) [bT B0 aD IC.2.2 γ14.1 γ14.2,I9 Jo IC.2.1,ae b1 γ14.1.cells 133,ae b5 ((IV a2)).toArray 52,ae b9 #[] 128] w0 w) hD ?_ ?_
  ·
   rintro y17 RPy17 nxy17 hD;refine q6 (kM (I IC.1) r rfl rfl fun r=>kM (I a3) r rfl rfl fun r=>kB r rfl rfl rfl rfl rfl fun r=>kM (.bool (decide (IC.1<a3))) r rfl rfl fun r=>?_);refine bG (decide (IC.1<a3)) (fun K4=>?_) (fun K4=>?_)
   ·
    have hD:=z7 (ar K4) hD;refine s1 r K4 (aa _ r (fun R=>az r (b:=b1) (o:=0) (k:=0) rfl eX) rfl fun fr r=>s1 r K4 (kL (.bool IC.2.2.2.bC) r rfl (hP.cell (i:=2) rfl) to4 (Jm.jW (hP.prog (i:=0) rfl)) rfl fun r=>s1 r K4 (aa (.bool (!IC.2.2.2.bC)) r (fun R=>JQ r (u:=(.bool IC.2.2.2.bC)) rfl rfl) rfl fun fr r=>aa (.bool (!IC.2.2.2.bC)) r (fun R=>ay r (b:=true) (kb K4) rfl) rfl fun fr r=>wn ?_)));exact nxy17 (!IC.2.2.2.bC) () _ _ _ hD r (kO (kO (aq rfl (aq rfl (aq rfl aJ))))) (hP.pick [0,1,2,3,4] rfl rfl)
   have hD:=z7 (ai K4) hD;refine s0 r K4 fun fr r=>s0 r K4 fun fr r=>s0 r K4 fun fr r=>aa (.bool false) r (fun R=>ay r (b:=false) (kb K4) rfl) rfl fun fr r=>wn ?_;exact nxy17 false () _ _ _ hD r (kO (kO (aq rfl (aq rfl (aq rfl aJ))))) (hP.pick [0,1,2,3,4] rfl rfl)
  rintro x19 γ20 fr w21 g r hP hD;have hP:Post (fun b=>b∈(I9 Jo a1).own) [bT B0 aD IC.2.2 γ14.1 γ14.2,I9 Jo IC.2.1,ae b1 γ14.1.cells 133,ae b5 ((IV a2)).toArray 52,ae b9 #[] 128] w0 w21:=hP
  refine q5 (t:=x19) (r.ev rfl) (fun h22=>?_) (fun h22=>?_)
  ·
   have hD:=z7 (ar h22) hD;refine q7 (wp_block (I0 (aa γ14.1 r (fun R=>hU r (hP.prog (i:=0) rfl).shape rfl (hP.cell (i:=2) rfl) cT) rfl fun fr r=>kM (zp Jo.mb) r rfl rfl fun r=>kG (IV a2) 2 r rfl (hP.cell (i:=3) rfl) ta52 rfl rfl fun r=>?_)));obtain ⟨JE,hx23,hD⟩:=aG hD
   refine kC r (zL w21 IC.2.2 IC.2.1 a2 (hP.sep.pk [0,1] rfl rfl) hx23) rfl Gf rfl ?_;rintro _ w24 ⟨v25,F26,rfl,hq⟩;refine ⟨_,rfl,fun fr r=>?_⟩
   have hP:Post (fun b=>b∈(I9 Jo a1).own) [bT B0 aD IC.2.2 γ14.1 γ14.2,I9 Jo JE.2.2,ae b1 γ14.1.cells 133,ae b5 ((IV a2)).toArray 52,ae b9 #[] 128,bT B0 aD JE.1 v25 F26] w0 w24:=hP.setR (i:=1) (k:=0) rfl rfl rfl hq
   refine kM (.tuple #[v25,(.bool JE.2.1)]) r rfl rfl fun r=>aa v25 r (fun R=>bZ r (vs:=#[v25,(.bool JE.2.1)]) rfl rfl) rfl fun fr r=>aa (.bool JE.2.1) r (fun R=>bZ r (vs:=#[v25,(.bool JE.2.1)]) rfl rfl) rfl fun fr r=>?_;refine ah (.cells (kq aD) 133 (0,0)) r (fun R=>ag dF) rfl fun fr b28 w29 n30 r=>?_
   have hP:Post (fun b=>b∈(I9 Jo a1).own) [bT B0 aD IC.2.2 γ14.1 γ14.2,I9 Jo JE.2.2,ae b1 γ14.1.cells 133,ae b5 ((IV a2)).toArray 52,ae b9 #[] 128,bT B0 aD JE.1 v25 F26,ae b28 (kq aD) 133] w0 w29:=hP.new n30
   refine kP r (hP.prog (i:=5) rfl).shape rfl rfl (hP.cell (i:=6) rfl) db rfl rfl fun w32 u33 r=>?_;have hP:Post (fun b=>b∈(I9 Jo a1).own) [bT B0 aD IC.2.2 γ14.1 γ14.2,I9 Jo JE.2.2,ae b1 γ14.1.cells 133,ae b5 ((IV a2)).toArray 52,ae b9 #[] 128,bT B0 aD JE.1 v25 F26,ae b28 v25.cells 133] w0 w32:=hP.upd (i:=6) rfl u33
   refine kA (.bool JE.2.1) r rfl rfl fun r=>wn (d9 (I0 (kM (.bool JE.2.1) r rfl rfl fun r=>aa (.bool (!JE.2.1)) r (fun R=>JQ r (u:=(.bool JE.2.1)) rfl rfl) rfl fun fr r=>wn ?_)));refine q5 (t:=(!JE.2.1)) (r.ev rfl) (fun h34=>?_) (fun h34=>?_)
   ·
    have hD:=z7 (ar h34) hD;refine wp_exit ?_;exact bky15 (IC.1,JE.2.2,IC.2.2) (γ14.1,γ14.2) _ _ _ hD r (kO (kO (aq rfl (aq rfl aJ)))) (hP.pick [0,1,2,3,4] rfl rfl)
   have hD:=z7 (ai h34) hD;refine q7 (I0 (aa v25 r (fun R=>hU r (hP.prog (i:=5) rfl).shape rfl (hP.cell (i:=6) rfl) cT) rfl fun fr r=>?_));refine kP r (hP.prog (i:=5) rfl).shape rfl rfl (hP.cell (i:=2) rfl) db (by have h:=(hP.prog (i:=0) rfl).shape.cells.1; simpa using h) rfl fun w35 u36 r=>?_
   have hP:Post (fun b=>b∈(I9 Jo a1).own) [bT B0 aD IC.2.2 γ14.1 γ14.2,I9 Jo JE.2.2,ae b1 v25.cells 133,ae b5 ((IV a2)).toArray 52,ae b9 #[] 128,bT B0 aD JE.1 v25 F26,ae b28 v25.cells 133] w0 w35:=hP.upd (i:=2) rfl u36
   refine wn ?_;refine q6 (kM (I IC.1) r rfl rfl fun r=>kB r rfl rfl rfl rfl rfl fun r=>kA (I (W (IC.1+1))) r rfl rfl fun r=>wn ?_);exact nxy15 ((W (IC.1+1)),JE.2.2,JE.1) (v25,F26) _ _ _ hD r (kO (kO (aq rfl (aq rfl aJ)))) (hP.pick [5,1,2,3,4] rfl rfl)
  have hD:=z7 (ai h22) hD;refine wp_exit ?_;exact bky15 (IC.1,IC.2.1,IC.2.2) (γ14.1,γ14.2) _ _ _ hD r (kO (kO (aq rfl (aq rfl aJ)))) (hP.pick [0,1,2,3,4] rfl rfl)
 rintro JO γ38 fr w39 g r hP hD;have hP:Post (fun b=>b∈(I9 Jo a1).own) [bT B0 aD JO.2.2 γ38.1 γ38.2,I9 Jo JO.2.1,ae b1 γ38.1.cells 133,ae b5 ((IV a2)).toArray 52,ae b9 #[] 128] w0 w39:=hP
 refine d9 ?_;refine jQ [b9] [.pred (fun v _ _ _=>∃ sp,v=.pointer (some ⟨b1,1,sp⟩)) (fun _ _ _ _ _ h _=>h),.val (.agg #[]),.val (I JO.1),.val (zp b1),.val (.bool JO.2.2.2.bC),.eff (KN w39.heap.size (ae b9 #[] 128) (fun _:Unit=>undef) (fun _:Unit=>[])) (KN.st _ _ _ _),.val (I JO.1),.val (.bool JO.2.2.2.bC)] mixed r (fun b hb=>hP.sep.lt (i:=4) rfl (.inl hb)) kz ?_ ?_
 ·
  refine cI r rfl kz (fun I2 g w' hb' hd r'=>?_) ?_
  · exact lD r' rfl mq ((hP.z8 hb').cell (i:=2) rfl) (fun sp=>⟨Below.refl _ _,sp,rfl⟩)
  refine cI r rfl kz (fun I2 g w' hb' hd r'=>?_) ?_
  · obtain ⟨sp,hsp⟩:=(hd 0 rfl).1; exact lJ r' hsp jc bz
  refine aW r rfl (fun I2 g w' hk' hd r'=>?_) ?_
  · exact aw r' (v:=(I JO.1)) rfl bz
  refine aW r rfl (fun I2 g w' hk' hd r'=>?_) ?_
  · exact az r' (b:=b1) (o:=0) (k:=0) rfl eX bz
  refine aW r rfl (fun I2 g w' hk' hd r'=>?_) ?_
  · exact ax r' (v:=(.bool JO.2.2.2.bC)) (hd 3 rfl).1 (hP.cellK (j:=4) rfl (drK hk') (i:=2) rfl rfl) to4 (Jm.jW (show Jm _ _ _ _ _ _ _ from hP.okK (j:=4) rfl (drK hk') (i:=0) rfl rfl)) bz
  refine cI r rfl kz (fun I2 g w' hb' hd r'=>?_) ?_
  · exact bb r' (o:=0) (v:=(.agg #[])) rfl (hd 1 rfl).1 ((hP.z8 hb').cell (i:=4) rfl) yo u7 rfl rfl (fun w2 u2=>⟨u2.kept,(),rfl,u2.at_,(fun b hb=>hP.sep.lt (i:=4) rfl hb),lQ⟩)
  refine aW r rfl (fun I2 g w' hk' hd r'=>?_) ?_
  · exact cZ r' (v:=(I JO.1)) (hd 2 rfl).1 bz
  refine aW r rfl (fun I2 g w' hk' hd r'=>?_) ?_
  · exact cZ r' (v:=(.bool JO.2.2.2.bC)) (hd 4 rfl).1 bz
  exact bU
 intro fr gg w40 hb Iz hap r;obtain ⟨⟨⟩,g5,hcE,_,hs5⟩:=(Iz 5 rfl).1;have r:=r.congr (sc ((Iz 7 rfl).1) (sc ((Iz 6 rfl).1) (sc ((Iz 4 rfl).1) (sc ((Iz 3 rfl).1) (sc ((Iz 2 rfl).1) (sc ((Iz 1 rfl).1) (sc rfl rfl)))))));have hP:Post (fun b=>b∈(I9 Jo a1).own) [bT B0 aD JO.2.2 γ38.1 γ38.2,I9 Jo JO.2.1,ae b1 γ38.1.cells 133,ae b5 ((IV a2)).toArray 52,ae b9 #[] 128] w0 w40:=hP.effL (i:=4) (l:=[]) rfl hb hcE rfl rfl trivial
 refine q4 ?_;have hv:((),JO.1,JO.2.2.2.bC,JO.2.1)=res:=Option.some.inj hD
 try dsimp only [Exit.then,Exit.inBlock]
 refine nK (fn:=Tryz.f61) r rfl rfl (v':=(I JO.1)) (v2:=(.bool JO.2.2.2.bC)) rfl rfl (hP.cell (i:=4) rfl) (k:=0) rfl jc ?_;subst hv;exact ⟨rfl,(hP.pick [1] rfl rfl).done (dg rfl cG)⟩
def D.pP (fu:Nat) (a0:Nat × T IM) (a1:Mem) (a2:Cap):Option ((Nat × T IM) × Bool × Mem):=(bif a0.2.bC then (some (a0,false,a1)) else ((D.gL fu a1 a2 (T.acc a0.2)).bind (fun (Kd:Int × Bool × Mem)=>(bif (!Kd.2.1) then (some (a0,false,Kd.2.2)) else ((depthI a0.1).bind (fun (Ky:Nat)=>(some ((Ky,T.next a0.2 Kd.1),true,Kd.2.2))))))))
def D.jz (fu:Nat) (a0:Nat × T IM) (a1:Mem) (a2:Cap) (a3:Int):Option (IM × Int × Bool × Mem):=(loopThen (fun (IC:Int × Mem × (Nat × T IM))=>(Option.bind (bif (decide (IC.1<a3)) then (some (!IC.2.2.2.bC)) else (some false)) (fun (x19:Bool)=>(bif x19 then ((D.pP fu IC.2.2 IC.2.1 a2).bind (fun (JE:(Nat × T IM) × Bool × Mem)=>(bif (!JE.2.1) then (some (Lp.brk (IC.1,JE.2.2,IC.2.2))) else (some (Lp.next ((IntKind.i64.wrap (IC.1+1)),JE.2.2,JE.1)))))) else (some (Lp.brk (IC.1,IC.2.1,IC.2.2))))))) fu (0,a1,a0) (fun (JO:Int × Mem × (Nat × T IM))=>(some ((T.res (⟨0,0⟩:IM) JO.2.2.2),JO.1,JO.2.2.2.bC,JO.2.1))))
theorem cl20:af B0 20:=kz
theorem cl59:af B0 59:=kz
theorem cl60:af B0 60:=kz
theorem cl61:af B0 61:=kz
theorem cl62:af B0 62:=kz
def D.jk (fu:Nat) (a0:Plan):Option (Mem):=((D.m4 fu ([(D.bF a0)])).bind (fun (Jn:Mem × Int)=>(Option.bind (bif (Jn.2 !=0) then (some true) else (some false)) (fun (Kd:Bool)=>(bif Kd then none else ((D.jp fu Jn.1 0).bind (fun (Jh:Cap)=>((D.nH fu (fu,(D.iS (fu+1) a0)) Jn.1 Jh (IntKind.i64.wrap (a0.nodes+1))).bind (fun (Kb:Unit × Int × Bool × Mem)=>(bif (!Kb.2.2.1) then none else (some Kb.2.2.2)))))))))))
theorem tz {fu:Nat} (w0:World) (a0:Plan) {res:Mem} (hD:D.jk fu a0=some res) :
    Calls B0 14 #[z6 (ac a0)] w0 (fun e w'=>∃ (g0:MG),e=.returned (zp g0.mb)/\Kv No No [I9 g0 res] w0 w'):=by
 refine enter Tryz.func14 rfl 37 rfl rfl fun fr r=>?_;have hP:Post No [] w0 w0:=Post.nil w0
 unfold D.jk at hD
 refine I0 ?_;refine kX 23 (z6 (ac a0)) r rfl rfl fun b1 w2 n3 r=>?_;have hP:Post No [ae b1 ((ac a0)).toArray 23] w0 w2:=hP.new n3
 refine kA (.pointer none) r rfl rfl fun r=>wn (I0 (kG (ac a0) 6 r rfl (hP.cell (i:=0) rfl) IJ rfl rfl fun r=>?_));refine kE r (Bg w2 a0) rfl cl60 rfl fun w5 hb r=>?_
 have hP:=hP.below hb;refine eH (.cells (([(D.bF a0)]).flatMap i64).toArray 3 (0,0)) 1 r (fun R=>cJ r kz) rfl fun fr b6 w7 n8 r=>?_;have hP:Post No [_,II 3 1 i64 (.slice (some ⟨b6,0,none⟩) 1 1) ([(D.bF a0)])] w0 w7:=hP.newRow n8 (fun _=>rfl) rfl
 obtain ⟨Jn,hx10,hD⟩:=aG hD;refine kC r (CY w7 ([(D.bF a0)]) (hP.row (i:=1) rfl).ro hx10) rfl cl59 rfl ?_;rintro _ JV ⟨KS,rfl,hq⟩;refine ⟨_,rfl,fun fr r=>?_⟩
 have hP:Post No [_,_,I9 KS Jn.1] w0 JV:=hP.add hq;refine kM (.tuple #[(zp KS.mb),(I Jn.2)]) r rfl rfl fun r=>aa (zp KS.mb) r (fun R=>bZ r (vs:=#[(zp KS.mb),(I Jn.2)]) rfl rfl) rfl fun fr r=>aa (I Jn.2) r (fun R=>bZ r (vs:=#[(zp KS.mb),(I Jn.2)]) rfl rfl) rfl fun fr r=>kA (zp KS.mb) r rfl rfl fun r=>kA (I Jn.2) r rfl rfl fun r=>wn (d9 (d9 ?_));have hP:Post No [ae b1 ((ac a0)).toArray 23,I9 KS Jn.1] w0 JV:=hP.pick [0,2] rfl rfl
 refine cR (N:=37) (Y:=Bool) (G:=Unit) (fun x γ=>[(0,(z6 (ac a0))),(1,(zp b1)),(2,(.pointer none)),(3,(zp KS.mb)),(4,(I Jn.2)),(20,(.bool x))]) (fun x γ w=>Post No [ae b1 ((ac a0)).toArray 23,I9 KS Jn.1] w0 w) hD ?_ ?_
 ·
  rintro y14 RPy14 nxy14 hD;refine q6 (kM (I Jn.2) r rfl rfl fun r=>kB r rfl rfl rfl rfl rfl fun r=>kM (.bool (Jn.2 !=0)) r rfl rfl fun r=>?_);refine bG (Jn.2 !=0) (fun h15=>?_) (fun h15=>?_)
  ·
   have hD:=z7 (ar h15) hD;refine s0 r h15 fun fr r=>s0 r h15 fun fr r=>aa (.bool true) r (fun R=>ay r (b:=true) (kb h15) rfl) rfl fun fr r=>wn ?_;exact nxy14 true () _ _ _ hD r (kO (aq rfl (aq rfl aJ))) (hP.pick [0,1] rfl rfl)
  have hD:=z7 (ai h15) hD;refine s1 r h15 (kM (zp KS.mb) r rfl rfl fun r=>s1 r h15 (kB r rfl rfl rfl rfl rfl fun r=>aa (.bool false) r (fun R=>ay r (b:=false) (kb h15) rfl) rfl fun fr r=>wn ?_));exact nxy14 false () _ _ _ hD r (kO (aq rfl (aq rfl aJ))) (hP.pick [0,1] rfl rfl)
 rintro Kd γ17 fr w18 g r hP hD;have hP:Post No [_,_] w0 w18:=hP;refine q5 (t:=Kd) (r.ev rfl) (fun h19=>?_) (fun h19=>?_)
 ·
  have hD:=z7 (ar h19) hD;refine I0 (kA (.pointer none) r rfl rfl fun r=>wn (q4 ?_));exact nomatch hD
 have hD:=z7 (ai h19) hD;refine q7 (d9 ?_);obtain ⟨Jh,hx21,hD⟩:=aG hD;obtain ⟨Kb,hx22,hD⟩:=aG hD;refine jQ KS.bs [.val (z6 (ac a0)),.pred (PrP B0 aD (fu,(D.iS (fu+1) a0))) (PrP.st _),.val (zp KS.mb),.val (zp KS.mb),.val (z6 (IV Jh)),.val (zp b1),.val (I a0.nodes),.val (I (W (a0.nodes+1))),.eff (KN w18.heap.size (I9 KS Kb.2.2.2) (fun _:Unit=>(.tuple #[(.agg #[]),(I Kb.2.1),(.bool Kb.2.2.1)])) (fun _:Unit=>[])) (KN.st _ _ _ _),.val (.tuple #[(.agg #[]),(I Kb.2.1),(.bool Kb.2.2.1)]),.val (.agg #[]),.val (I Kb.2.1),.val (.bool Kb.2.2.1),.cell 128 0,.stored 13 #[] 128 0 rfl,.val (I Kb.2.1),.val (.bool Kb.2.2.1)] mixed r (fun b hb=>hP.sep.lt (i:=1) rfl (.inl hb)) kz ?_ ?_
 ·
  refine aW r rfl (fun I2 g w' hk' hd r'=>?_) ?_
  · exact aU r' (cs:=(ac a0)) (n:=6) rfl (hP.cellK (j:=1) rfl (drK hk') (i:=0) rfl rfl) IJ rfl bz
  refine cI r rfl kz (fun I2 g w' hb' hd r'=>?_) ?_
  · exact aN r' (args:=[(z6 (ac a0))]) (lc (hd 0 rfl).1 l0) cl62 ((Ca (F:=No) (n:=fu) (j:=fu+1) (fun _ h=>h.elim) O a0).mono (by rintro _ w2 ⟨y,rfl,hb2,Jz⟩; exact ⟨_,rfl,hb2,CN Jz⟩))
  refine cI r rfl kz (fun I2 g w' hb' hd r'=>?_) ?_
  · exact aw r' (v:=(zp KS.mb)) rfl bz
  refine aW r rfl (fun I2 g w' hk' hd r'=>?_) ?_
  · exact aw r' (v:=(zp KS.mb)) rfl bz
  refine cI r rfl kz (fun I2 g w' hb' hd r'=>?_) ?_
  · exact aN r' (args:=[(zp KS.mb),(I 0)]) (lc (hd 3 rfl).1 (lc rfl l0)) cl20 ((qc _ Jn.1 ((hP.z8 hb').mem (i:=1) rfl) 0 hx21).mono JL)
  refine aW r rfl (fun I2 g w' hk' hd r'=>?_) ?_
  · exact az r' (b:=b1) (o:=0) (k:=0) rfl eR bz
  refine aW r rfl (fun I2 g w' hk' hd r'=>?_) ?_
  · exact ax r' (v:=(I a0.nodes)) (hd 5 rfl).1 (hP.cellK (j:=1) rfl (drK hk') (i:=0) rfl rfl) IL rfl bz
  refine cI r rfl kz (fun I2 g w' hb' hd r'=>?_) ?_
  · exact bd r' (u:=(I a0.nodes)) (u':=(I 1)) (v:=(I (W (a0.nodes+1)))) (hd 6 rfl).1 rfl rfl rfl bz
  refine cI r rfl kz (fun I2 g w' hb' hd r'=>?_) ?_
  · exact aN r' (args:=[(g 1).v,(zp KS.mb),(z6 (IV Jh)),(I (W (a0.nodes+1)))]) (lc rfl (lc (hd 2 rfl).1 (lc (hd 4 rfl).1 (lc (hd 7 rfl).1 l0)))) cl61 ((Bj _ (fu,(D.iS (fu+1) a0)) Jn.1 Jh (W (a0.nodes+1)) (JY.beside (hd 1 rfl).1 ((hP.z8 hb').sep.pk [1] rfl rfl) (by intro c hc b hb; simp only [List.mem_cons,List.not_mem_nil,or_false] at hc; rcases hc with rfl; exact hP.sep.lt (i:=1) rfl hb) (hd 1 rfl).2.1) hx22).mono (by rintro _ w2 ⟨rfl,hq⟩; exact ⟨_,rfl,hq.KE.kept,KN.of () hq rfl (fun b hb=>hP.sep.lt (i:=1) rfl hb)⟩))
  refine aW r rfl (fun I2 g w' hk' hd r'=>?_) ?_
  · exact aw r' (v:=(.tuple #[(.agg #[]),(I Kb.2.1),(.bool Kb.2.2.1)])) (KN.val (hd 8 rfl).1) bz
  refine aW r rfl (fun I2 g w' hk' hd r'=>?_) ?_
  · exact bZ r' (vs:=#[(.agg #[]),(I Kb.2.1),(.bool Kb.2.2.1)]) (hd 9 rfl).1 rfl bz
  refine aW r rfl (fun I2 g w' hk' hd r'=>?_) ?_
  · exact bZ r' (vs:=#[(.agg #[]),(I Kb.2.1),(.bool Kb.2.2.1)]) (hd 9 rfl).1 rfl bz
  refine aW r rfl (fun I2 g w' hk' hd r'=>?_) ?_
  · exact bZ r' (vs:=#[(.agg #[]),(I Kb.2.1),(.bool Kb.2.2.1)]) (hd 9 rfl).1 rfl bz
  refine aW r rfl (fun I2 g w' hk' hd r'=>?_) ?_
  · exact ag yC (fun b w2 n2=>⟨n2.below,b,rfl,n2.eq,_,n2.at_,rfl⟩)
  refine aW r rfl (fun I2 g w' hk' hd r'=>?_) ?_
  · obtain ⟨hp,_,c,hc,hn⟩:=(hd 13 rfl).1; exact bb r' (o:=0) (c:=c) (v:=(.agg #[])) hp (hd 10 rfl).1 hc yo yar rfl (fX (hn.trans rfl)) (fun w2 u2=>⟨u2,rfl⟩)
  refine aW r rfl (fun I2 g w' hk' hd r'=>?_) ?_
  · exact cZ r' (v:=(I Kb.2.1)) (hd 11 rfl).1 bz
  refine aW r rfl (fun I2 g w' hk' hd r'=>?_) ?_
  · exact cZ r' (v:=(.bool Kb.2.2.1)) (hd 12 rfl).1 bz
  exact bU
 intro fr gg w24 hb Iz hap r;obtain ⟨v20,hv1⟩:∃ v,v=(gg 1).v:=⟨_,rfl⟩;have g1:(gg 1).v=v20:=hv1.symm;obtain ⟨F25,eF25⟩:∃ F,F=rg (gg 1).lo (gg 1).hi:=⟨_,rfl⟩;have hs1:cy [bT B0 aD (fu,(D.iS (fu+1) a0)) v20 F25] (gg 1).lo (gg 1).hi w24:=by subst hv1; subst eF25; exact (Iz 1 rfl).1
 obtain ⟨⟨⟩,g8,hcE,_,hs8⟩:=(Iz 8 rfl).1;obtain ⟨b23,ee_b23⟩:∃ b,b=(gg 13).lo:=⟨_,rfl⟩;have g13:(gg 13).v=(zp b23):=by rw [ee_b23]; exact (Iz 13 rfl).1.1
 have H23:w24.heap[b23]?=some (.cells #[] 128 (0,0)):=by rw [ee_b23]; exact (Iz 14 rfl).1.2
 have hs13:cy [ae b23 #[] 128] (gg 13).lo (gg 13).hi w24:=by subst ee_b23; exact cy.cell (Iz 13 rfl).1.2.1 H23
 have r:=r.congr (sc ((Iz 16 rfl).1) (sc ((Iz 15 rfl).1) (sc g13 (sc ((Iz 12 rfl).1) (sc ((Iz 11 rfl).1) (sc ((Iz 10 rfl).1) (sc ((Iz 9 rfl).1) (sc g8 (sc ((Iz 7 rfl).1) (sc ((Iz 6 rfl).1) (sc ((Iz 5 rfl).1) (sc ((Iz 4 rfl).1) (sc ((Iz 3 rfl).1) (sc ((Iz 2 rfl).1) (sc g1 (sc ((Iz 0 rfl).1) rfl))))))))))))))));have hP:Post No [_,I9 KS Kb.2.2.2,bT B0 aD (fu,(D.iS (fu+1) a0)) v20 F25,ae b23 #[] 128] w0 w24:=hP.effL (i:=1) (l:=[([bT B0 aD (fu,(D.iS (fu+1) a0)) v20 F25],(gg 1).lo,(gg 1).hi),([ae b23 #[] 128],(gg 13).lo,(gg 13).hi)]) rfl hb hcE rfl rfl ⟨hs1,(Iz 1 rfl).2.1,(fD (hap 1 13 rfl) da),⟨hs13,(Iz 13 rfl).2.1,da,trivial⟩⟩;refine d9 (I0 (kM (.bool Kb.2.2.1) r rfl rfl fun r=>aa (.bool (!Kb.2.2.1)) r (fun R=>JQ r (u:=(.bool Kb.2.2.1)) rfl rfl) rfl fun fr r=>wn ?_));refine q5 (t:=(!Kb.2.2.1)) (r.ev rfl) (fun h26=>?_) (fun h26=>?_)
 ·
  have hD:=z7 (ar h26) hD;refine I0 (kA (.pointer none) r rfl rfl fun r=>wn (q4 ?_));exact nomatch hD
 have hD:=z7 (ai h26) hD;refine q7 (I0 (kM (zp KS.mb) r rfl rfl fun r=>kA (zp KS.mb) r rfl rfl fun r=>wn (q4 ?_)));have hv:Kb.2.2.2=res:=Option.some.inj hD
 try dsimp only [Exit.then,Exit.inBlock]
 refine aT (fn:=Tryz.f14) r (t:=2) rfl (v:=(zp KS.mb)) rfl ?_;subst hv;exact ⟨KS,rfl,(hP.pick [1] rfl rfl).done (dg rfl cG)⟩
theorem cl21:af B0 21:=kz
theorem rt31:rowTy B0 31 3 1:=kz
end Go.Proofs.YtbbipmelhmgmfaaGreat
