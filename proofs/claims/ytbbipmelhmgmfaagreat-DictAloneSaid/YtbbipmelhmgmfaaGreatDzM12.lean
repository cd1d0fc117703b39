/- Some of our texts, one behind the other. -/
import Derived.Test.YtbbipmelhmgmfaaGreatDzThens
import Derived.Test.YtbbipmelhmgmfaaGreatDzM7
set_option linter.all false
set_option maxRecDepth 100000
set_option maxHeartbeats 20000000
/- Ours. -/
namespace Go.Proofs.YtbbipmelhmgmfaaGreat
open Go.RowKit
section
variable {n : Nat} {F : Nat -> Prop} {j : Nat} {w0 : World}
theorem yj:af B0 202:=kz
theorem Gd:af B0 204:=kz
theorem GM:af B0 214:=kz
theorem Fw:af B0 284:=kz
theorem FK:af B0 291:=kz
theorem yK:af B0 292:=kz
theorem HB:af B0 294:=kz
theorem Hw:af B0 344:=kz
theorem Gc:af B0 345:=kz
theorem Ge:af B0 400:=kz
theorem GG:tyO B0 171:=kz
theorem FF:tyO B0 200:=kz
theorem mG:tyO B0 239:=kz
theorem Hg:tyO B0 252:=kz
theorem Hy:tyO B0 286:=kz
def D.tK (c0:(Unit->T Unit)) (a0:Int):T Unit:=(c0 ())
theorem Ad (hF:kH F w0)
    {c0f:FuncId} {K8 K9:List Value} {c0:(Unit->T Unit)} {I5:Nat} (J9:F I5) (I3:w0.heap[I5]?=some (.cells #[kf c0f K8 K9] 252 (0,0))) (c0n:Kq B0 aD unitE (n+1) F w0 (kf c0f K8 K9) c0) (a0:Int) :
    Calls B0 294 #[.int .u64 a0,zp I5] w0 (aH B0 aD n (D.tK c0 a0) F w0):=by
 refine kN Tryz.func294 rfl 6 rfl rfl fun fr r hB=>?_;have Jq:=q8 I3
 refine I0 ?_;refine ah (.cells (kq aD) 133 (0,0)) r (fun R=>ag dF) rfl fun fr b1 w2 n3 r=>?_;obtain ⟨eb1,zw2,hb1,hB,zB⟩:=n3.all hB
 refine wn (I0 (kL (kf c0f K8 K9) r rfl (keep hB I3) Hg rfl rfl fun r=>?_));refine cS r (c0n.at_.2 n (Nat.lt_succ_self n) () w2 (I8.below hB hF) hB.size) (fun R hc=>iW r rfl c0n.at_.1 hc) rfl ?_
 rintro _ w4 ⟨v5,rfl,hb,J0⟩;refine ⟨_,rfl,fun fr r=>?_⟩
 have zw4:=hb.size;have hb1:=keep hb hb1;obtain ⟨hB,zB⟩:=IQ hb hB;refine kP r J0.shape rfl rfl hb1 db rfl rfl fun w7 u8 r=>?_;have zw7:=u8.size
 have hb1:=u8.at_;obtain ⟨hB,zB⟩:=u8.on hB O
 refine wn (q4 ?_);have hs:=J0.shape.cells;refine ak r rfl rfl hb1 (k:=6) hs.1 cT ?_;rw [<-hs.2.2];exact aH.fin hB J0 u8 (fun b hb=>.inl hb) (fun h=>by have:=hF _ h; omega) O O O
def D.nA (a0:Int) (a1:Int) (a2:(Unit->T Unit)):T Unit:=(D.uz (⟨1,a0,a1,0⟩:Access) (fun x=>(D.tK a2 x)))
theorem tJ (hF:kH F w0)
    (a0:Int) (a1:Int) {a2f:FuncId} {Iw Iy:List Value} {a2:(Unit->T Unit)} (a2n:Kq B0 aD unitE (n) F w0 (kf a2f Iw Iy) a2) :
    Calls B0 202 #[.int .i64 a0,.int .u64 a1,kf a2f Iw Iy] w0 (aH B0 aD n (D.nA a0 a1 a2) F w0):=by
 refine kN Tryz.func202 rfl 12 rfl rfl fun fr r hB=>?_;refine I0 ?_
 refine kX 252 (kf a2f Iw Iy) r rfl rfl fun b1 w2 n3 r=>?_;obtain ⟨eb1,zw2,hb1,hB,zB⟩:=n3.all hB
 refine ah (.cells (kq aD) 133 (0,0)) r (fun R=>ag dF) rfl fun fr b4 w5 n6 r=>?_;have hb1:=keep n6.below hb1
 obtain ⟨eb4,zw5,Jc,hB,zB⟩:=n6.all hB;refine wn (I0 (kM (I a0) r rfl rfl fun r=>kM (U a1) r rfl rfl fun r=>kU (z6 (bh (⟨1,a0,a1,0⟩:Access))) r kz rfl fun r=>aa (.func (.func 294) #[] #[zp b1]) r (fun R=>aZ r rfl) rfl fun fr r=>?_));have I4:=aP hF hB b4
 have f7:((kW F w0 w5 b4)) b1:=(.inr ⟨O,O,O⟩)
 refine kD r (ud (F:=(kW F w0 w5 b4)) (n:=n) I4 (⟨1,a0,a1,0⟩:Access) ⟨294,[],[zp b1],HB,rfl,fun m hm x w' hs hz=>Ad (fun b hb=>q9 (I4 b hb) hz) f7 (hs.at_ f7 hb1) (a2n.mono O (fun b h=>.inl h) ((I8.below hB hF).trans (hs.sub (fun b h=>.inl h))) (Nat.le_trans hB.size hz)) x⟩) rfl yP rfl fun w8 v9 hb Jv r=>?_;have zw8:=hb.size
 have hb1:=keep hb hb1;have Jc:=keep hb Jc;obtain ⟨hB,zB⟩:=IQ hb hB;refine kP r Jv.shape rfl rfl Jc db rfl rfl fun JV JH r=>?_;have zw11:=JH.size
 have hb1:=JH.keep hb1 O
 have Jc:=JH.at_;obtain ⟨hB,zB⟩:=JH.on hB O
 exact wn (q4 (kR r Jv rfl rfl Jc rfl cT hF hB JH O O O))
def D.uO :T Unit:=D.nE
theorem C9 (hF:kH F w0)
     :
    Calls B0 291 #[] w0 (aH B0 aD n D.uO F w0):=by
 refine kN Tryz.func291 rfl 3 rfl rfl fun fr r hB=>?_;refine I0 ?_
 refine ah (.cells (kq aD) 133 (0,0)) r (fun R=>ag dF) rfl fun fr b1 w2 n3 r=>?_;obtain ⟨eb1,zw2,hb1,hB,zB⟩:=n3.all hB
 refine wn (I0 (kU (.agg #[]) r kz rfl fun r=>?_));have I4:=aP hF hB b1
 refine kD r (tR (F:=(kW F w0 w2 b1)) (n:=n) I4 ) rfl yK rfl fun w4 v5 hb J0 r=>?_;have zw4:=hb.size
 have hb1:=keep hb hb1;obtain ⟨hB,zB⟩:=IQ hb hB;refine kP r J0.shape rfl rfl hb1 db rfl rfl fun w7 u8 r=>?_;have zw7:=u8.size
 have hb1:=u8.at_;obtain ⟨hB,zB⟩:=u8.on hB O
 exact wn (q4 (kR r J0 rfl rfl hb1 rfl cT hF hB u8 O O O))
def D.lS (a0:Int) (a1:Int):T Unit:=(D.nA a0 a1 (fun _=>D.uO))
theorem uT (hF:kH F w0)
    (a0:Int) (a1:Int) :
    Calls B0 200 #[.int .i64 a0,.int .u64 a1] w0 (aH B0 aD n (D.lS a0 a1) F w0):=by
 refine kN Tryz.func200 rfl 8 rfl rfl fun fr r hB=>?_;refine I0 ?_
 refine ah (.cells (kq aD) 133 (0,0)) r (fun R=>ag dF) rfl fun fr b1 w2 n3 r=>?_;obtain ⟨eb1,zw2,hb1,hB,zB⟩:=n3.all hB
 refine wn (I0 (kM (I a0) r rfl rfl fun r=>kM (U a1) r rfl rfl fun r=>?_));have I4:=aP hF hB b1
 refine kD r (tJ (F:=(kW F w0 w2 b1)) (n:=n) I4 a0 a1 ⟨291,[],[],FK,rfl,fun m hm _ w' hs hz=>C9 (fun b hb=>q9 (I4 b hb) hz) ⟩) rfl yj rfl fun w4 v5 hb J0 r=>?_;have zw4:=hb.size
 have hb1:=keep hb hb1;obtain ⟨hB,zB⟩:=IQ hb hB;refine kP r J0.shape rfl rfl hb1 db rfl rfl fun w7 u8 r=>?_;have zw7:=u8.size
 have hb1:=u8.at_;obtain ⟨hB,zB⟩:=u8.on hB O
 exact wn (q4 (kR r J0 rfl rfl hb1 rfl cT hF hB u8 O O O))
def D.gK (a0:Int) (a1:(Int->T IM)):T IM:=(D.nS (⟨0,a0,0,0⟩:Access) a1)
def D.tY (c0:(Bool->T IM)) (c1:Int) (a0:Int):T IM:=(c0 (a0==c1))
def D.jx (a0:Int) (a1:Int) (a2:Int) (a3:(Bool->T IM)):T IM:=(D.nS (⟨2,a0,a1,a2⟩:Access) (fun x=>(D.tY a3 a1 x)))
def D.tN (c0:(Unit->T IM)) (a0:Int):T IM:=(c0 ())
def D.fq (a0:Int) (a1:Int) (a2:(Unit->T IM)):T IM:=(D.nS (⟨1,a0,a1,0⟩:Access) (fun x=>(D.tN a2 x)))
def D.dL (a0:Int) (a1:(Int->T Int)):T Int:=(D.nU (⟨0,a0,0,0⟩:Access) a1)
theorem fP (hF:kH F w0)
    (a0:Int) {Ks:FuncId} {HP HQ:List Value} {a1:(Int->T Int)} (a1n:Kq B0 aj u64 (n) F w0 (kf Ks HP HQ) a1) :
    Calls B0 186 #[.int .i64 a0,kf Ks HP HQ] w0 (aH B0 aj n (D.dL a0 a1) F w0):=by
 refine kN Tryz.func186 rfl 9 rfl rfl fun fr r hB=>?_;refine I0 ?_
 refine ah (.cells (kq aj) 119 (0,0)) r (fun R=>ag bP) rfl fun fr b1 w2 n3 r=>?_;obtain ⟨eb1,zw2,hb1,hB,zB⟩:=n3.all hB
 refine wn (I0 (kM (I a0) r rfl rfl fun r=>kU (z6 (bh (⟨0,a0,0,0⟩:Access))) r kz rfl fun r=>kM (kf Ks HP HQ) r rfl rfl fun r=>?_));have I4:=aP hF hB b1
 refine kD r (lz (F:=(kW F w0 w2 b1)) (n:=n) I4 (⟨0,a0,0,0⟩:Access) (a1n.mono O (fun b h=>.inl h) (I8.below hB hF) hB.size)) rfl mz rfl fun w4 v5 hb J0 r=>?_;have zw4:=hb.size
 have hb1:=keep hb hb1;obtain ⟨hB,zB⟩:=IQ hb hB;refine kP r J0.shape rfl rfl hb1 bv rfl rfl fun w7 u8 r=>?_;have zw7:=u8.size
 have hb1:=u8.at_;obtain ⟨hB,zB⟩:=u8.on hB O
 exact wn (q4 (kR r J0 rfl rfl hb1 rfl bu hF hB u8 O O O))
def D.jo (c0:(Bool->T Int)) (c1:Int) (a0:Int):T Int:=(c0 (a0==c1))
theorem AH (hF:kH F w0)
    {c0f:FuncId} {K8 K9:List Value} {c0:(Bool->T Int)} {I5:Nat} (J9:F I5) (I3:w0.heap[I5]?=some (.cells #[kf c0f K8 K9] 290 (0,0))) (c0n:Kq B0 aj aF (n+1) F w0 (kf c0f K8 K9) c0) (c1:Int) {IE:Nat} (Ka:F IE) (IA:w0.heap[IE]?=some (.cells ([(.int .u64 c1)]).toArray 34 (0,0))) (a0:Int) :
    Calls B0 345 #[.int .u64 a0,zp I5,zp IE] w0 (aH B0 aj n (D.jo c0 c1 a0) F w0):=by
 refine kN Tryz.func345 rfl 10 rfl rfl fun fr r hB=>?_;have Jq:=q8 I3
 have Jy:=q8 IA;refine I0 ?_;refine ah (.cells (kq aj) 119 (0,0)) r (fun R=>ag bP) rfl fun fr b1 w2 n3 r=>?_;obtain ⟨eb1,zw2,hb1,hB,zB⟩:=n3.all hB
 refine wn (I0 (kL (kf c0f K8 K9) r rfl (keep hB I3) sL rfl rfl fun r=>kM (U a0) r rfl rfl fun r=>kL (U c1) r rfl (keep hB IA) Ja rfl rfl fun r=>kB r rfl rfl rfl rfl rfl fun r=>?_));refine cS r (c0n.at_.2 n (Nat.lt_succ_self n) (a0==c1) w2 (I8.below hB hF) hB.size) (fun R hc=>dM r rfl rfl c0n.at_.1 hc) rfl ?_
 rintro _ w4 ⟨v5,rfl,hb,J0⟩;refine ⟨_,rfl,fun fr r=>?_⟩
 have zw4:=hb.size;have hb1:=keep hb hb1;obtain ⟨hB,zB⟩:=IQ hb hB;refine kP r J0.shape rfl rfl hb1 bv rfl rfl fun w7 u8 r=>?_;have zw7:=u8.size
 have hb1:=u8.at_;obtain ⟨hB,zB⟩:=u8.on hB O
 refine wn (q4 ?_);have hs:=J0.shape.cells;refine ak r rfl rfl hb1 (k:=7) hs.1 bu ?_;rw [<-hs.2.2];exact aH.fin hB J0 u8 (fun b hb=>.inl hb) (fun h=>by have:=hF _ h; omega) O O O
def D.qu (a0:Int) (a1:Int) (a2:Int) (a3:(Bool->T Int)):T Int:=(D.nU (⟨2,a0,a1,a2⟩:Access) (fun x=>(D.jo a3 a1 x)))
theorem tZ (hF:kH F w0)
    (a0:Int) (a1:Int) (a2:Int) {a3f:FuncId} {Ik Il:List Value} {a3:(Bool->T Int)} (a3n:Kq B0 aj aF (n) F w0 (kf a3f Ik Il) a3) :
    Calls B0 278 #[.int .i64 a0,.int .u64 a1,.int .u64 a2,kf a3f Ik Il] w0 (aH B0 aj n (D.qu a0 a1 a2 a3) F w0):=by
 refine kN Tryz.func278 rfl 15 rfl rfl fun fr r hB=>?_;refine I0 ?_
 refine kX 34 (U a1) r rfl rfl fun b1 w2 n3 r=>?_;obtain ⟨eb1,zw2,hb1,hB,zB⟩:=n3.all hB
 refine kX 290 (kf a3f Ik Il) r rfl rfl fun b4 w5 n6 r=>?_;have hb1:=keep n6.below hb1
 obtain ⟨eb4,zw5,Jc,hB,zB⟩:=n6.all hB;refine ah (.cells (kq aj) 119 (0,0)) r (fun R=>ag bP) rfl fun fr b7 w8 n9 r=>?_;have hb1:=keep n9.below hb1
 have Jc:=keep n9.below Jc;obtain ⟨eb7,zw8,JA,hB,zB⟩:=n9.all hB;refine wn (I0 (kM (I a0) r rfl rfl fun r=>kL (U a1) r rfl hb1 Ja rfl rfl fun r=>kM (U a2) r rfl rfl fun r=>kU (z6 (bh (⟨2,a0,a1,a2⟩:Access))) r kz rfl fun r=>aa (.func (.func 345) #[] #[zp b4,zp b1]) r (fun R=>aZ r rfl) rfl fun fr r=>?_));have I4:=aP hF hB b7
 have f10:((kW F w0 w8 b7)) b4:=(.inr ⟨O,O,O⟩)
 have f11:((kW F w0 w8 b7)) b1:=(.inr ⟨O,O,O⟩)
 refine kD r (lz (F:=(kW F w0 w8 b7)) (n:=n) I4 (⟨2,a0,a1,a2⟩:Access) ⟨345,[],[zp b4,zp b1],Gc,rfl,fun m hm x w' hs hz=>AH (fun b hb=>q9 (I4 b hb) hz) f10 (hs.at_ f10 Jc) (a3n.mono O (fun b h=>.inl h) ((I8.below hB hF).trans (hs.sub (fun b h=>.inl h))) (Nat.le_trans hB.size hz)) a1 f11 (hs.at_ f11 hb1) x⟩) rfl mz rfl fun w12 v13 hb hr14 r=>?_;have zw12:=hb.size
 have hb1:=keep hb hb1;have Jc:=keep hb Jc;have JA:=keep hb JA;obtain ⟨hB,zB⟩:=IQ hb hB;refine kP r hr14.shape rfl rfl JA bv rfl rfl fun w15 u16 r=>?_;have zw15:=u16.size
 have hb1:=u16.keep hb1 O
 have Jc:=u16.keep Jc O
 have JA:=u16.at_;obtain ⟨hB,zB⟩:=u16.on hB O
 exact wn (q4 (kR r hr14 rfl rfl JA rfl bu hF hB u16 O O O))
def D.qh (a0:Int) (a1:(Int->T IY)):T IY:=(D.qq (⟨0,a0,0,0⟩:Access) a1)
theorem AL (hF:kH F w0)
    (a0:Int) {Ks:FuncId} {HP HQ:List Value} {a1:(Int->T IY)} (a1n:Kq B0 bA u64 (n) F w0 (kf Ks HP HQ) a1) :
    Calls B0 269 #[.int .i64 a0,kf Ks HP HQ] w0 (aH B0 bA n (D.qh a0 a1) F w0):=by
 refine kN Tryz.func269 rfl 9 rfl rfl fun fr r hB=>?_;refine I0 ?_
 refine ah (.cells (kq bA) 116 (0,0)) r (fun R=>ag dX) rfl fun fr b1 w2 n3 r=>?_;obtain ⟨eb1,zw2,hb1,hB,zB⟩:=n3.all hB
 refine wn (I0 (kM (I a0) r rfl rfl fun r=>kU (z6 (bh (⟨0,a0,0,0⟩:Access))) r kz rfl fun r=>kM (kf Ks HP HQ) r rfl rfl fun r=>?_));have I4:=aP hF hB b1
 refine kD r (qi (F:=(kW F w0 w2 b1)) (n:=n) I4 (⟨0,a0,0,0⟩:Access) (a1n.mono O (fun b h=>.inl h) (I8.below hB hF) hB.size)) rfl s8 rfl fun w4 v5 hb J0 r=>?_;have zw4:=hb.size
 have hb1:=keep hb hb1;obtain ⟨hB,zB⟩:=IQ hb hB;refine kP r J0.shape rfl rfl hb1 dP rfl rfl fun w7 u8 r=>?_;have zw7:=u8.size
 have hb1:=u8.at_;obtain ⟨hB,zB⟩:=u8.on hB O
 exact wn (q4 (kR r J0 rfl rfl hb1 rfl dO hF hB u8 O O O))
def D.tG (c0:(Unit->T IY)) (a0:Int):T IY:=(c0 ())
theorem zV (hF:kH F w0)
    {c0f:FuncId} {K8 K9:List Value} {c0:(Unit->T IY)} {I5:Nat} (J9:F I5) (I3:w0.heap[I5]?=some (.cells #[kf c0f K8 K9] 286 (0,0))) (c0n:Kq B0 bA unitE (n+1) F w0 (kf c0f K8 K9) c0) (a0:Int) :
    Calls B0 344 #[.int .u64 a0,zp I5] w0 (aH B0 bA n (D.tG c0 a0) F w0):=by
 refine kN Tryz.func344 rfl 6 rfl rfl fun fr r hB=>?_;have Jq:=q8 I3
 refine I0 ?_;refine ah (.cells (kq bA) 116 (0,0)) r (fun R=>ag dX) rfl fun fr b1 w2 n3 r=>?_;obtain ⟨eb1,zw2,hb1,hB,zB⟩:=n3.all hB
 refine wn (I0 (kL (kf c0f K8 K9) r rfl (keep hB I3) Hy rfl rfl fun r=>?_));refine cS r (c0n.at_.2 n (Nat.lt_succ_self n) () w2 (I8.below hB hF) hB.size) (fun R hc=>iW r rfl c0n.at_.1 hc) rfl ?_
 rintro _ w4 ⟨v5,rfl,hb,J0⟩;refine ⟨_,rfl,fun fr r=>?_⟩
 have zw4:=hb.size;have hb1:=keep hb hb1;obtain ⟨hB,zB⟩:=IQ hb hB;refine kP r J0.shape rfl rfl hb1 dP rfl rfl fun w7 u8 r=>?_;have zw7:=u8.size
 have hb1:=u8.at_;obtain ⟨hB,zB⟩:=u8.on hB O
 refine wn (q4 ?_);have hs:=J0.shape.cells;refine ak r rfl rfl hb1 (k:=9) hs.1 dO ?_;rw [<-hs.2.2];exact aH.fin hB J0 u8 (fun b hb=>.inl hb) (fun h=>by have:=hF _ h; omega) O O O
def D.qg (a0:Int) (a1:Int) (a2:(Unit->T IY)):T IY:=(D.qq (⟨1,a0,a1,0⟩:Access) (fun x=>(D.tG a2 x)))
theorem AB (hF:kH F w0)
    (a0:Int) (a1:Int) {a2f:FuncId} {Iw Iy:List Value} {a2:(Unit->T IY)} (a2n:Kq B0 bA unitE (n) F w0 (kf a2f Iw Iy) a2) :
    Calls B0 271 #[.int .i64 a0,.int .u64 a1,kf a2f Iw Iy] w0 (aH B0 bA n (D.qg a0 a1 a2) F w0):=by
 refine kN Tryz.func271 rfl 12 rfl rfl fun fr r hB=>?_;refine I0 ?_
 refine kX 286 (kf a2f Iw Iy) r rfl rfl fun b1 w2 n3 r=>?_;obtain ⟨eb1,zw2,hb1,hB,zB⟩:=n3.all hB
 refine ah (.cells (kq bA) 116 (0,0)) r (fun R=>ag dX) rfl fun fr b4 w5 n6 r=>?_;have hb1:=keep n6.below hb1
 obtain ⟨eb4,zw5,Jc,hB,zB⟩:=n6.all hB;refine wn (I0 (kM (I a0) r rfl rfl fun r=>kM (U a1) r rfl rfl fun r=>kU (z6 (bh (⟨1,a0,a1,0⟩:Access))) r kz rfl fun r=>aa (.func (.func 344) #[] #[zp b1]) r (fun R=>aZ r rfl) rfl fun fr r=>?_));have I4:=aP hF hB b4
 have f7:((kW F w0 w5 b4)) b1:=(.inr ⟨O,O,O⟩)
 refine kD r (qi (F:=(kW F w0 w5 b4)) (n:=n) I4 (⟨1,a0,a1,0⟩:Access) ⟨344,[],[zp b1],Hw,rfl,fun m hm x w' hs hz=>zV (fun b hb=>q9 (I4 b hb) hz) f7 (hs.at_ f7 hb1) (a2n.mono O (fun b h=>.inl h) ((I8.below hB hF).trans (hs.sub (fun b h=>.inl h))) (Nat.le_trans hB.size hz)) x⟩) rfl s8 rfl fun w8 v9 hb Jv r=>?_;have zw8:=hb.size
 have hb1:=keep hb hb1;have Jc:=keep hb Jc;obtain ⟨hB,zB⟩:=IQ hb hB;refine kP r Jv.shape rfl rfl Jc dP rfl rfl fun JV JH r=>?_;have zw11:=JH.size
 have hb1:=JH.keep hb1 O
 have Jc:=JH.at_;obtain ⟨hB,zB⟩:=JH.on hB O
 exact wn (q4 (kR r Jv rfl rfl Jc rfl dO hF hB JH O O O))
def D.ql (a0:Int) (a1:(Int->T Bool)):T Bool:=(D.uE (⟨0,a0,0,0⟩:Access) a1)
theorem Bf (hF:kH F w0)
    (a0:Int) {Ks:FuncId} {HP HQ:List Value} {a1:(Int->T Bool)} (a1n:Kq B0 cv u64 (n) F w0 (kf Ks HP HQ) a1) :
    Calls B0 396 #[.int .i64 a0,kf Ks HP HQ] w0 (aH B0 cv n (D.ql a0 a1) F w0):=by
 refine kN Tryz.func396 rfl 9 rfl rfl fun fr r hB=>?_;refine I0 ?_
 refine ah (.cells (kq cv) 318 (0,0)) r (fun R=>ag ku) rfl fun fr b1 w2 n3 r=>?_;obtain ⟨eb1,zw2,hb1,hB,zB⟩:=n3.all hB
 refine wn (I0 (kM (I a0) r rfl rfl fun r=>kU (z6 (bh (⟨0,a0,0,0⟩:Access))) r kz rfl fun r=>kM (kf Ks HP HQ) r rfl rfl fun r=>?_));have I4:=aP hF hB b1
 refine kD r (BD (F:=(kW F w0 w2 b1)) (n:=n) I4 (⟨0,a0,0,0⟩:Access) (a1n.mono O (fun b h=>.inl h) (I8.below hB hF) hB.size)) rfl Ge rfl fun w4 v5 hb J0 r=>?_;have zw4:=hb.size
 have hb1:=keep hb hb1;obtain ⟨hB,zB⟩:=IQ hb hB;refine kP r J0.shape rfl rfl hb1 iw rfl rfl fun w7 u8 r=>?_;have zw7:=u8.size
 have hb1:=u8.at_;obtain ⟨hB,zB⟩:=u8.on hB O
 exact wn (q4 (kR r J0 rfl rfl hb1 rfl iy hF hB u8 O O O))
def D.nr (c0:(Unit->T Int)) (a0:Int):T Int:=(c0 ())
theorem Ay (hF:kH F w0)
    {c0f:FuncId} {K8 K9:List Value} {c0:(Unit->T Int)} {I5:Nat} (J9:F I5) (I3:w0.heap[I5]?=some (.cells #[kf c0f K8 K9] 239 (0,0))) (c0n:Kq B0 aj unitE (n+1) F w0 (kf c0f K8 K9) c0) (a0:Int) :
    Calls B0 284 #[.int .u64 a0,zp I5] w0 (aH B0 aj n (D.nr c0 a0) F w0):=by
 refine kN Tryz.func284 rfl 6 rfl rfl fun fr r hB=>?_;have Jq:=q8 I3
 refine I0 ?_;refine ah (.cells (kq aj) 119 (0,0)) r (fun R=>ag bP) rfl fun fr b1 w2 n3 r=>?_;obtain ⟨eb1,zw2,hb1,hB,zB⟩:=n3.all hB
 refine wn (I0 (kL (kf c0f K8 K9) r rfl (keep hB I3) mG rfl rfl fun r=>?_));refine cS r (c0n.at_.2 n (Nat.lt_succ_self n) () w2 (I8.below hB hF) hB.size) (fun R hc=>iW r rfl c0n.at_.1 hc) rfl ?_
 rintro _ w4 ⟨v5,rfl,hb,J0⟩;refine ⟨_,rfl,fun fr r=>?_⟩
 have zw4:=hb.size;have hb1:=keep hb hb1;obtain ⟨hB,zB⟩:=IQ hb hB;refine kP r J0.shape rfl rfl hb1 bv rfl rfl fun w7 u8 r=>?_;have zw7:=u8.size
 have hb1:=u8.at_;obtain ⟨hB,zB⟩:=u8.on hB O
 refine wn (q4 ?_);have hs:=J0.shape.cells;refine ak r rfl rfl hb1 (k:=7) hs.1 bu ?_;rw [<-hs.2.2];exact aH.fin hB J0 u8 (fun b hb=>.inl hb) (fun h=>by have:=hF _ h; omega) O O O
def D.ee (a0:Int) (a1:Int) (a2:(Unit->T Int)):T Int:=(D.nU (⟨1,a0,a1,0⟩:Access) (fun x=>(D.nr a2 x)))
theorem gH (hF:kH F w0)
    (a0:Int) (a1:Int) {a2f:FuncId} {Iw Iy:List Value} {a2:(Unit->T Int)} (a2n:Kq B0 aj unitE (n) F w0 (kf a2f Iw Iy) a2) :
    Calls B0 188 #[.int .i64 a0,.int .u64 a1,kf a2f Iw Iy] w0 (aH B0 aj n (D.ee a0 a1 a2) F w0):=by
 refine kN Tryz.func188 rfl 12 rfl rfl fun fr r hB=>?_;refine I0 ?_
 refine kX 239 (kf a2f Iw Iy) r rfl rfl fun b1 w2 n3 r=>?_;obtain ⟨eb1,zw2,hb1,hB,zB⟩:=n3.all hB
 refine ah (.cells (kq aj) 119 (0,0)) r (fun R=>ag bP) rfl fun fr b4 w5 n6 r=>?_;have hb1:=keep n6.below hb1
 obtain ⟨eb4,zw5,Jc,hB,zB⟩:=n6.all hB;refine wn (I0 (kM (I a0) r rfl rfl fun r=>kM (U a1) r rfl rfl fun r=>kU (z6 (bh (⟨1,a0,a1,0⟩:Access))) r kz rfl fun r=>aa (.func (.func 284) #[] #[zp b1]) r (fun R=>aZ r rfl) rfl fun fr r=>?_));have I4:=aP hF hB b4
 have f7:((kW F w0 w5 b4)) b1:=(.inr ⟨O,O,O⟩)
 refine kD r (lz (F:=(kW F w0 w5 b4)) (n:=n) I4 (⟨1,a0,a1,0⟩:Access) ⟨284,[],[zp b1],Fw,rfl,fun m hm x w' hs hz=>Ay (fun b hb=>q9 (I4 b hb) hz) f7 (hs.at_ f7 hb1) (a2n.mono O (fun b h=>.inl h) ((I8.below hB hF).trans (hs.sub (fun b h=>.inl h))) (Nat.le_trans hB.size hz)) x⟩) rfl mz rfl fun w8 v9 hb Jv r=>?_;have zw8:=hb.size
 have hb1:=keep hb hb1;have Jc:=keep hb Jc;obtain ⟨hB,zB⟩:=IQ hb hB;refine kP r Jv.shape rfl rfl Jc bv rfl rfl fun JV JH r=>?_;have zw11:=JH.size
 have hb1:=JH.keep hb1 O
 have Jc:=JH.at_;obtain ⟨hB,zB⟩:=JH.on hB O
 exact wn (q4 (kR r Jv rfl rfl Jc rfl bu hF hB JH O O O))
def D.ny (a0:Int) (a1:(Int->T Int)):T Int:=(D.ul (⟨0,a0,0,0⟩:Access) a1)
theorem tF (hF:kH F w0)
    (a0:Int) {Ks:FuncId} {HP HQ:List Value} {a1:(Int->T Int)} (a1n:Kq B0 bK u64 (n) F w0 (kf Ks HP HQ) a1) :
    Calls B0 313 #[.int .i64 a0,kf Ks HP HQ] w0 (aH B0 bK n (D.ny a0 a1) F w0):=by
 refine kN Tryz.func313 rfl 9 rfl rfl fun fr r hB=>?_;refine I0 ?_
 refine ah (.cells (kq bK) 271 (0,0)) r (fun R=>ag fj) rfl fun fr b1 w2 n3 r=>?_;obtain ⟨eb1,zw2,hb1,hB,zB⟩:=n3.all hB
 refine wn (I0 (kM (I a0) r rfl rfl fun r=>kU (z6 (bh (⟨0,a0,0,0⟩:Access))) r kz rfl fun r=>kM (kf Ks HP HQ) r rfl rfl fun r=>?_));have I4:=aP hF hB b1
 refine kD r (tM (F:=(kW F w0 w2 b1)) (n:=n) I4 (⟨0,a0,0,0⟩:Access) (a1n.mono O (fun b h=>.inl h) (I8.below hB hF) hB.size)) rfl yz rfl fun w4 v5 hb J0 r=>?_;have zw4:=hb.size
 have hb1:=keep hb hb1;obtain ⟨hB,zB⟩:=IQ hb hB;refine kP r J0.shape rfl rfl hb1 eL rfl rfl fun w7 u8 r=>?_;have zw7:=u8.size
 have hb1:=u8.at_;obtain ⟨hB,zB⟩:=u8.on hB O
 exact wn (q4 (kR r J0 rfl rfl hb1 rfl eK hF hB u8 O O O))
end
section
variable {n : Nat} {F : Nat -> Prop} {j : Nat} {w0 : World}
theorem xq:af B0 116:=kz
theorem sI:af B0 182:=kz
theorem gx:af B0 186:=kz
theorem iz:af B0 188:=kz
theorem su:af B0 190:=kz
theorem mC:af B0 191:=kz
theorem mF:af B0 192:=kz
theorem pG:af B0 193:=kz
theorem yq:af B0 200:=kz
theorem sM:af B0 201:=kz
theorem Gk:af B0 203:=kz
theorem fe:af B0 222:=kz
theorem Hc:af B0 276:=kz
theorem GH:af B0 277:=kz
theorem yd:af B0 278:=kz
theorem xE:af B0 279:=kz
theorem Gy:af B0 280:=kz
theorem pF:af B0 296:=kz
theorem xZ:af B0 310:=kz
theorem ye:af B0 346:=kz
theorem Fj:af B0 355:=kz
theorem FD:af B0 356:=kz
theorem Hb:af B0 357:=kz
theorem ti3:intTy B0 3 .i64:=kz
theorem KO:intTy B0 34 .u64:=kz
theorem kv:sized B0 241 2:=kz
theorem ky:zeroOf B0 241=some (z6 (aR (⟨0,0⟩:Field))):=kz
theorem tz3:zeroOf B0 3=some (.int .i64 0):=kz
def D.dC (a0:Int):Int:=(IntKind.u64.wrap (IntKind.i64.wrap (a0+1)))
theorem qJ (w0:World) 
    (a0:Int) :
    Calls B0 201 #[.int .i64 a0] w0 (bB (.int .u64 (D.dC a0)) w0):=by
 refine kN Tryz.func201 rfl 6 rfl rfl fun fr r hB=>?_;refine I0 (kA (U 0) r rfl rfl fun r=>wn (I0 (kM (I a0) r rfl rfl fun r=>kB r rfl rfl rfl rfl rfl fun r=>aa (U (V (W (a0+1)))) r (fun R=>cV r rfl ti3 KO) rfl fun fr r=>kA (U (V (W (a0+1)))) r rfl rfl fun r=>wn (q4 ?_))))
 refine aT r rfl rfl ?_;exact ⟨rfl,hB⟩
def D.qA (HT:Plan->Int->T Unit) (c0:Plan) (c1:Int):T Unit:=(HT c0 (IntKind.i64.wrap (c1+1)))
def D.gI (HT:Plan->Int->T Unit) (a0:Plan) (a1:Int):T Unit:=(bif (a1==a0.nodes) then (D.lS (D.dK a0) (D.dC 0)) else (let x19:Int:=(bif ((IntKind.i64.wrap (a1+1))==a0.nodes) then 0 else (D.dC (IntKind.i64.wrap (a1+1)))); (D.nA (D.dQ a0 a1) x19 (fun _=>(D.qA HT a0 a1)))))
def D.fY:Nat->Plan->Int->T Unit
 | 0,_,_=>.cut
 | k+1,a0,a1=>D.gI (D.fY k) a0 a1
def qj (r:Plan->Int->T Unit) (n:Nat):Prop:=∀ (F:Nat->Prop) (w0:World),(∀ b,F b->b<w0.heap.size)->∀ (a0:Plan) (a1:Int),Calls B0 116 #[z6 (ac a0),.int .i64 a1] w0 (aH B0 aD n (r a0 a1) F w0)
theorem BK {HT:Plan->Int->T Unit} (hF:kH F w0) (Ip:∀ m,m<=n->qj HT m)
    (c0:Plan) {I5:Nat} (J9:F I5) (I3:w0.heap[I5]?=some (.cells ((ac c0)).toArray 23 (0,0))) (c1:Int) {IE:Nat} (Ka:F IE) (IA:w0.heap[IE]?=some (.cells ([(.int .i64 c1)]).toArray 3 (0,0))) :
    Calls B0 203 #[zp I5,zp IE] w0 (aH B0 aD n (D.qA HT c0 c1) F w0):=by
 refine kN Tryz.func203 rfl 7 rfl rfl fun fr r hB=>?_;have Jq:=q8 I3
 have Jy:=q8 IA;refine I0 ?_;refine ah (.cells (kq aD) 133 (0,0)) r (fun R=>ag dF) rfl fun fr b1 w2 n3 r=>?_;obtain ⟨E1,Z2,H1,hB,zB⟩:=n3.all hB
 refine wn (I0 (kG (ac c0) 6 r rfl (keep hB I3) IJ rfl rfl fun r=>kL (I c1) r rfl (keep hB IA) IL rfl rfl fun r=>kB r rfl rfl rfl rfl rfl fun r=>?_));have I4:=aP hF hB b1
 refine kD r ((Ip n O) (kW F w0 w2 b1) _ I4 c0 (W (c1+1))) rfl xq rfl fun w4 v5 hb J0 r=>?_;have Z4:=hb.size
 have H1:=keep hb H1;obtain ⟨hB,zB⟩:=IQ hb hB;refine kP r J0.shape rfl rfl H1 db rfl rfl fun w7 u8 r=>?_;have Z7:=u8.size
 have H1:=u8.at_;obtain ⟨hB,zB⟩:=u8.on hB O
 exact wn (q4 (kR r J0 rfl rfl H1 rfl cT hF hB u8 O O O))
theorem Ci {n:Nat} {F:Nat->Prop} {HT:Plan->Int->T Unit} {w0:World} (hF:∀ b,F b->b<w0.heap.size) (Ip:∀ m,m<n->qj HT m)
    (a0:Plan) (a1:Int) :
    Calls B0 116 #[z6 (ac a0),.int .i64 a1] w0 (aH B0 aD n (D.gI HT a0 a1) F w0):=by
 refine kN Tryz.func116 rfl 28 rfl rfl fun fr r hB=>?_;refine I0 ?_
 refine kX 23 (z6 (ac a0)) r rfl rfl fun b1 w2 n3 r=>?_;obtain ⟨E1,Z2,H1,hB,zB⟩:=n3.all hB
 refine kX 3 (I a1) r rfl rfl fun b4 w5 n6 r=>?_;have H1:=keep n6.below H1
 obtain ⟨E4,Z5,H4,hB,zB⟩:=n6.all hB;refine ah (.cells (kq aD) 133 (0,0)) r (fun R=>ag dF) rfl fun fr b7 w8 n9 r=>?_;have H1:=keep n9.below H1
 have H4:=keep n9.below H4;obtain ⟨E7,Z8,H7,hB,zB⟩:=n9.all hB;refine wn (d9 (I0 (kL (I a1) r rfl H4 IL rfl rfl fun r=>kF 0 r rfl eR rfl fun r=>kL (I a0.nodes) r rfl H1 IL rfl rfl fun r=>kB r rfl rfl rfl rfl rfl fun r=>wn ?_)));refine q5 (t:=(a1==a0.nodes)) (r.ev rfl) (fun JS=>?_) (fun JS=>?_)
 ·
  refine I0 (kG (ac a0) 6 r rfl H1 IJ rfl rfl fun r=>?_);refine kE r (lf w8 a0) rfl mF rfl fun JV hb r=>?_
  have Z11:=hb.size;have H1:=keep hb H1;have H4:=keep hb H4;have H7:=keep hb H7;obtain ⟨hB,zB⟩:=IQ hb hB;refine kE r (qJ JV 0) rfl sM rfl fun w12 hb r=>?_;have Z12:=hb.size
  have H1:=keep hb H1;have H4:=keep hb H4;have H7:=keep hb H7;obtain ⟨hB,zB⟩:=IQ hb hB;have I4:=aP hF hB b7;refine kD r (uT (F:=(kW F w0 w12 b7)) (n:=n) I4 (D.dK a0) (D.dC 0)) rfl yq rfl fun Kc K6 hb Kf r=>?_;have Z13:=hb.size
  have H1:=keep hb H1;have H4:=keep hb H4;have H7:=keep hb H7;obtain ⟨hB,zB⟩:=IQ hb hB;refine kP r Kf.shape rfl rfl H7 db rfl rfl fun w16 K3 r=>?_;have Z16:=K3.size
  have H1:=K3.keep H1 O
  have H4:=K3.keep H4 O
  have H7:=K3.at_;obtain ⟨hB,zB⟩:=K3.on hB O
  refine wn (q4 ?_);have hd:D.gI HT a0 a1=(D.lS (D.dK a0) (D.dC 0)):=(ar JS).trans (rfl);have hs:=Kf.shape.cells;refine ak r rfl rfl H7 (k:=6) hs.1 cT ?_;rw [<-hs.2.2,hd];exact JR hF hB Kf K3 O O O
 refine q7 (I0 (kL (I a1) r rfl H4 IL rfl rfl fun r=>kB r rfl rfl rfl rfl rfl fun r=>?_));refine kE r (qJ w8 (W (a1+1))) rfl sM rfl fun w18 hb r=>?_
 have Z18:=hb.size;have H1:=keep hb H1;have H4:=keep hb H4;have H7:=keep hb H7;obtain ⟨hB,zB⟩:=IQ hb hB;refine kA (U (D.dC (W (a1+1)))) r rfl rfl fun r=>wn (d9 (I0 (kL (I a1) r rfl H4 IL rfl rfl fun r=>kB r rfl rfl rfl rfl rfl fun r=>kF 0 r rfl eR rfl fun r=>kL (I a0.nodes) r rfl H1 IL rfl rfl fun r=>kB r rfl rfl rfl rfl rfl fun r=>wn ?_)));obtain ⟨x19,hx19⟩:∃ x:Int,x=(bif ((W (a1+1))==a0.nodes) then 0 else (D.dC (W (a1+1)))):=⟨_,rfl⟩
 refine Em (N:=28) [(0,(z6 (ac a0))),(1,(I a1)),(2,(zp b1)),(3,(zp b4)),(4,(zp b7)),(5,(U x19))] (fun w=>Below w0.heap.size w0 w/\w18.heap.size<=w.heap.size/\w.heap[b1]?=some (.cells ((ac a0)).toArray 23 (0,0))/\w.heap[b4]?=some (.cells #[(I a1)] 3 (0,0))/\w.heap[b7]?=some (.cells (kq aD) 133 (0,0))) ?_ ?_
 ·
  refine q5 (t:=((W (a1+1))==a0.nodes)) (r.ev rfl) (fun h20=>?_) (fun h20=>?_)
  ·
   refine q6 (kA (U 0) r rfl rfl fun r=>wn ?_);exact ⟨rfl,_,r,(aq rfl (aq rfl (aq rfl (aq rfl (aq rfl (aq (by rw [hx19,ar h20]; rfl) aJ)))))),hB,O,H1,H4,H7⟩
  refine q7 ?_;exact ⟨rfl,_,r,(aq rfl (aq rfl (aq rfl (aq rfl (aq rfl (aq (by rw [hx19,ai h20]; rfl) aJ)))))),hB,O,H1,H4,H7⟩
 rintro fr w21 g r ⟨hB,Z21,H1,H4,H7⟩;have zB:=hB.size;refine I0 (kG (ac a0) 6 r rfl H1 IJ rfl rfl fun r=>kL (I a1) r rfl H4 IL rfl rfl fun r=>?_);refine kE r (nu w21 a0 a1) rfl pG rfl fun w22 hb r=>?_
 have Z22:=hb.size;have H1:=keep hb H1;have H4:=keep hb H4;have H7:=keep hb H7;obtain ⟨hB,zB⟩:=IQ hb hB;refine kM (U x19) r rfl rfl fun r=>aa (.func (.func 203) #[] #[zp b1,zp b4]) r (fun R=>aZ r rfl) rfl fun fr r=>?_;have I4:=aP hF hB b7
 have f23:((kW F w0 w22 b7)) b1:=(.inr ⟨O,O,O⟩)
 have f24:((kW F w0 w22 b7)) b4:=(.inr ⟨O,O,O⟩)
 refine kD r (tJ (F:=(kW F w0 w22 b7)) (n:=n) I4 (D.dQ a0 a1) x19 ⟨203,[],[zp b1,zp b4],Gk,rfl,fun m hm _ w' hs hz=>BK (fun b hb=>q9 (I4 b hb) hz) (fun m' hm'=>Ip m' O) a0 f23 (hs.at_ f23 H1) a1 f24 (hs.at_ f24 H4)⟩) rfl yj rfl fun w25 v26 hb hr27 r=>?_;have Z25:=hb.size
 have H1:=keep hb H1;have H4:=keep hb H4;have H7:=keep hb H7;obtain ⟨hB,zB⟩:=IQ hb hB;refine kP r hr27.shape rfl rfl H7 db rfl rfl fun w28 u29 r=>?_;have Z28:=u29.size
 have H1:=u29.keep H1 O
 have H4:=u29.keep H4 O
 have H7:=u29.at_;obtain ⟨hB,zB⟩:=u29.on hB O
 refine wn (q4 ?_);have hd:D.gI HT a0 a1=(D.nA (D.dQ a0 a1) x19 (fun _=>(D.qA HT a0 a1))):=by subst hx19; exact (ai JS).trans (rfl)
 have hs:=hr27.shape.cells;refine ak r rfl rfl H7 (k:=6) hs.1 cT ?_;rw [<-hs.2.2,hd];exact JR hF hB hr27 u29 O O O
theorem Ch {n:Nat} {k:Nat} (hk:n<k):qj (D.fY k) n:=by
 induction n using Nat.strongRecOn generalizing k with
 | _ n ih=>
  obtain ⟨k,rfl⟩:∃ q,k=q+1:=⟨k - 1,O⟩
  intro F w0 hF;have h:=@Ci n F (D.fY k) w0 hF (fun m hm=>ih m hm O)
  exact h
def D.iS (j:Nat) (a0:Plan):T Unit:=(D.fY j a0 0)
theorem Ca (hF:kH F w0) (hj:n<j)
    (a0:Plan) :
    Calls B0 62 #[z6 (ac a0)] w0 (aH B0 aD n (D.iS j a0) F w0):=by
 refine kN Tryz.func62 rfl 5 rfl rfl fun fr r hB=>?_;refine I0 ?_
 refine kX 23 (z6 (ac a0)) r rfl rfl fun b1 w2 n3 r=>?_;obtain ⟨E1,Z2,H1,hB,zB⟩:=n3.all hB
 refine ah (.cells (kq aD) 133 (0,0)) r (fun R=>ag dF) rfl fun fr b4 w5 n6 r=>?_;have H1:=keep n6.below H1
 obtain ⟨E4,Z5,H4,hB,zB⟩:=n6.all hB;refine wn (I0 (kG (ac a0) 6 r rfl H1 IJ rfl rfl fun r=>?_));have I4:=aP hF hB b4
 refine kD r ((Ch (k:=j) (n:=n) O) (kW F w0 w5 b4) _ I4 a0 0) rfl xq rfl fun w7 v8 hb hr9 r=>?_;have Z7:=hb.size
 have H1:=keep hb H1;have H4:=keep hb H4;obtain ⟨hB,zB⟩:=IQ hb hB;refine kP r hr9.shape rfl rfl H4 db rfl rfl fun J8 JG r=>?_;have Z10:=JG.size
 have H1:=JG.keep H1 O
 have H4:=JG.at_;obtain ⟨hB,zB⟩:=JG.on hB O
 exact wn (q4 (kR r hr9 rfl rfl H4 rfl cT hF hB JG O O O))
def D.cj :Field:=(⟨0,21⟩:Field)
theorem qF (w0:World) 
     :
    Calls B0 190 #[] w0 (bB (z6 (aR D.cj)) w0):=by
 refine kN Tryz.func190 rfl 2 rfl rfl fun fr r hB=>?_;refine I0 ?_
 refine ah (.cells ((aR (⟨0,0⟩:Field))).toArray 241 (0,0)) r (fun R=>ag ky) rfl fun fr b1 w2 n3 r=>?_;obtain ⟨E1,Z2,H1,hB,zB⟩:=n3.all hB
 refine wn (I0 (kU (z6 (aR (⟨0,21⟩:Field))) r kz rfl fun r=>?_));refine aM (.cells ((aR (⟨0,21⟩:Field))).toArray 241 (0,0)) r (fun R=>bb r (o:=0) (v:=(z6 (aR (⟨0,21⟩:Field)))) rfl rfl H1 kv u7 rfl rfl) rfl fun fr w4 u5 r=>?_
 have Z4:=u5.size;have H1:=u5.at_;obtain ⟨hB,zB⟩:=u5.on hB O
 refine wn (q4 ?_);refine ak r rfl rfl H1 (k:=2) rfl dn ?_;exact ⟨rfl,hB⟩
def D.eG :Field:=(⟨21,43⟩:Field)
theorem uY (w0:World) 
     :
    Calls B0 346 #[] w0 (bB (z6 (aR D.eG)) w0):=by
 refine kN Tryz.func346 rfl 2 rfl rfl fun fr r hB=>?_;refine I0 ?_
 refine ah (.cells ((aR (⟨0,0⟩:Field))).toArray 241 (0,0)) r (fun R=>ag ky) rfl fun fr b1 w2 n3 r=>?_;obtain ⟨E1,Z2,H1,hB,zB⟩:=n3.all hB
 refine wn (I0 (kU (z6 (aR (⟨21,43⟩:Field))) r kz rfl fun r=>?_));refine aM (.cells ((aR (⟨21,43⟩:Field))).toArray 241 (0,0)) r (fun R=>bb r (o:=0) (v:=(z6 (aR (⟨21,43⟩:Field)))) rfl rfl H1 kv u7 rfl rfl) rfl fun fr w4 u5 r=>?_
 have Z4:=u5.size;have H1:=u5.at_;obtain ⟨hB,zB⟩:=u5.on hB O
 refine wn (q4 ?_);refine ak r rfl rfl H1 (k:=2) rfl dn ?_;exact ⟨rfl,hB⟩
def D.fV (a0:Int) (a1:Int):Int:=(D.cU D.eG (D.cU D.cj 0 a1) (IntKind.u64.wrap ((D.bN D.eG a0)+1)))
theorem ux (w0:World) 
    (a0:Int) (a1:Int) :
    Calls B0 279 #[.int .u64 a0,.int .u64 a1] w0 (bB (.int .u64 (D.fV a0 a1)) w0):=by
 refine kN Tryz.func279 rfl 14 rfl rfl fun fr r hB=>?_;refine I0 (kA (U 0) r rfl rfl fun r=>wn (I0 ?_))
 refine kE r (uY w0 ) rfl ye rfl fun w1 hb r=>?_;have Z1:=hb.size
 obtain ⟨hB,zB⟩:=IQ hb hB;refine kE r (qF w1 ) rfl su rfl fun w2 hb r=>?_;have Z2:=hb.size
 obtain ⟨hB,zB⟩:=IQ hb hB;refine kM (U a1) r rfl rfl fun r=>?_;refine kE r (pU w2 D.cj 0 a1) rfl pF rfl fun w3 hb r=>?_
 have Z3:=hb.size;obtain ⟨hB,zB⟩:=IQ hb hB;refine kE r (uY w3 ) rfl ye rfl fun w4 hb r=>?_;have Z4:=hb.size
 obtain ⟨hB,zB⟩:=IQ hb hB;refine kM (U a0) r rfl rfl fun r=>?_;refine kE r (mY w4 D.eG a0) rfl mC rfl fun w5 hb r=>?_
 have Z5:=hb.size;obtain ⟨hB,zB⟩:=IQ hb hB;refine kB r rfl rfl rfl rfl rfl fun r=>?_;refine kE r (pU w5 D.eG (D.cU D.cj 0 a1) (V ((D.bN D.eG a0)+1))) rfl pF rfl fun w6 hb r=>?_
 have Z6:=hb.size;obtain ⟨hB,zB⟩:=IQ hb hB;refine kA (U (D.cU D.eG (D.cU D.cj 0 a1) (V ((D.bN D.eG a0)+1)))) r rfl rfl fun r=>wn (q4 ?_);refine aT r rfl rfl ?_
 exact ⟨rfl,hB⟩
def D.jv (HJ:Plan->T Int) (c0:Plan) (c1:Int) (a0:Bool):T Int:=(bif (!a0) then (HJ c0) else (D.df c1))
def D.lG (HJ:Plan->T Int) (c0:Plan) (c1:Int) (c2:Int) (a0:Int):T Int:=(D.qu (D.dK c0) c1 (D.fV c1 a0) (fun x=>(D.jv HJ c0 c2 x)))
def D.gV (HJ:Plan->T Int) (c0:Plan) (a0:Int):T Int:=(bif (decide ((IntKind.i64.wrap ((IntKind.i64.wrap (D.bN D.cj a0)) - 1))<0)) then (D.df (-1)) else (D.dL (D.dQ c0 (IntKind.i64.wrap ((IntKind.i64.wrap (D.bN D.cj a0)) - 1))) (fun x=>(D.lG HJ c0 a0 (IntKind.i64.wrap ((IntKind.i64.wrap (D.bN D.cj a0)) - 1)) x))))
def D.jw (HJ:Plan->T Int) (a0:Plan):T Int:=(D.dL (D.dK a0) (fun x=>(D.gV HJ a0 x)))
def D.di:Nat->Plan->T Int
 | 0,_=>.cut
 | k+1,a0=>D.jw (D.di k) a0
def lr (r:Plan->T Int) (n:Nat):Prop:=∀ (F:Nat->Prop) (w0:World),(∀ b,F b->b<w0.heap.size)->∀ (a0:Plan),Calls B0 182 #[z6 (ac a0)] w0 (aH B0 aj n (r a0) F w0)
theorem AY {HJ:Plan->T Int} (hF:kH F w0) (HW:∀ m,m<=n->lr HJ m)
    (c0:Plan) {I5:Nat} (J9:F I5) (I3:w0.heap[I5]?=some (.cells ((ac c0)).toArray 23 (0,0))) (c1:Int) {IE:Nat} (Ka:F IE) (IA:w0.heap[IE]?=some (.cells ([(.int .i64 c1)]).toArray 3 (0,0))) (a0:Bool) :
    Calls B0 280 #[.bool a0,zp I5,zp IE] w0 (aH B0 aj n (D.jv HJ c0 c1 a0) F w0):=by
 refine kN Tryz.func280 rfl 11 rfl rfl fun fr r hB=>?_;have Jq:=q8 I3
 have Jy:=q8 IA;refine I0 ?_;refine ah (.cells (kq aj) 119 (0,0)) r (fun R=>ag bP) rfl fun fr b1 w2 n3 r=>?_;obtain ⟨E1,Z2,H1,hB,zB⟩:=n3.all hB
 refine wn (d9 (I0 (kM (.bool a0) r rfl rfl fun r=>aa (.bool (!a0)) r (fun R=>JQ r (u:=(.bool a0)) rfl rfl) rfl fun fr r=>wn ?_)));refine q5 (t:=(!a0)) (r.ev rfl) (fun h4=>?_) (fun h4=>?_)
 ·
  refine I0 (kG (ac c0) 6 r rfl (keep hB I3) IJ rfl rfl fun r=>?_);have I4:=aP hF hB b1
  refine kD r ((HW n O) (kW F w0 w2 b1) _ I4 c0) rfl sI rfl fun w5 v6 hb Kj r=>?_;have Z5:=hb.size
  have H1:=keep hb H1;obtain ⟨hB,zB⟩:=IQ hb hB;refine kP r Kj.shape rfl rfl H1 bv rfl rfl fun w8 u9 r=>?_;have Z8:=u9.size
  have H1:=u9.at_;obtain ⟨hB,zB⟩:=u9.on hB O
  refine wn (q4 ?_);have hd:D.jv HJ c0 c1 a0=(HJ c0):=(ar h4).trans (rfl);have hs:=Kj.shape.cells;refine ak r rfl rfl H1 (k:=7) hs.1 bu ?_;rw [<-hs.2.2,hd];exact JR hF hB Kj u9 O O O
 refine q7 (I0 (kL (I c1) r rfl (keep hB IA) IL rfl rfl fun r=>?_));have I4:=aP hF hB b1
 refine kD r (eT (F:=(kW F w0 w2 b1)) (n:=n) I4 c1) rfl fe rfl fun J8 v11 hb Jl r=>?_;have Z10:=hb.size
 have H1:=keep hb H1;obtain ⟨hB,zB⟩:=IQ hb hB;refine kP r Jl.shape rfl rfl H1 bv rfl rfl fun Kc Kr r=>?_;have Z13:=Kr.size
 have H1:=Kr.at_;obtain ⟨hB,zB⟩:=Kr.on hB O
 refine wn (q4 ?_);have hd:D.jv HJ c0 c1 a0=(D.df c1):=(ai h4).trans (rfl);have hs:=Jl.shape.cells;refine ak r rfl rfl H1 (k:=7) hs.1 bu ?_;rw [<-hs.2.2,hd];exact JR hF hB Jl Kr O O O
theorem BP {HJ:Plan->T Int} (hF:kH F w0) (HW:∀ m,m<n->lr HJ m)
    (c0:Plan) {I5:Nat} (J9:F I5) (I3:w0.heap[I5]?=some (.cells ((ac c0)).toArray 23 (0,0))) (c1:Int) {IE:Nat} (Ka:F IE) (IA:w0.heap[IE]?=some (.cells ([(.int .u64 c1)]).toArray 34 (0,0))) (c2:Int) {IU:Nat} (c2F:F IU) (IR:w0.heap[IU]?=some (.cells ([(.int .i64 c2)]).toArray 3 (0,0))) (a0:Int) :
    Calls B0 277 #[.int .u64 a0,zp I5,zp IE,zp IU] w0 (aH B0 aj n (D.lG HJ c0 c1 c2 a0) F w0):=by
 refine kN Tryz.func277 rfl 14 rfl rfl fun fr r hB=>?_;have Jq:=q8 I3
 have Jy:=q8 IA;have Kg:=q8 IR;refine I0 ?_;refine ah (.cells (kq aj) 119 (0,0)) r (fun R=>ag bP) rfl fun fr b1 w2 n3 r=>?_;obtain ⟨E1,Z2,H1,hB,zB⟩:=n3.all hB
 refine wn (d9 ?_);refine bI 7 [.val (z6 (ac c0)),.val (I (D.dK c0)),.val (U c1),.val (U c1),.val (U a0),.val (U (D.fV c1 a0)),.val (.func (.func 280) #[] #[zp I5,zp IU])] mixed r kz (kV (kV (kV (kV (kV (kV (kV bH))))))) ?_ ?_
 ·
  refine ec r (fun _ u _ b d s=>aU s (cs:=(ac c0)) (n:=6) rfl (cr hB b I3) IJ rfl bz) (ec r (fun I2 u w' hb' hd r'=>aN r' (args:=[(z6 (ac c0))]) (lc hd.1 l0) mF ((lf _ c0).mono JL)) (ec r (fun _ u _ b d s=>ax s rfl (cr hB b IA) Ja rfl bz) (ec r (fun _ u _ b d s=>ax s rfl (cr hB b IA) Ja rfl bz) (ec r (fun _ u _ b d s=>aw s rfl bz) (ec r (fun I2 u w' hb' hd r'=>aN r' (args:=[(U c1),(U a0)]) (lc hd.1 (lc hd.2.1 l0)) xE ((ux _ c1 a0).mono JL)) (ec r (fun _ u _ b d s=>aZ s (v:=(.func (.func 280) #[] #[zp I5,zp IU])) rfl bz) ?_))))));exact bJ
 intro fr u w4 hb Iz hne r;have r:=r.congr (sc (Iz 6 ke) (sc (Iz 5 ke) (sc (Iz 4 ke) (sc (Iz 3 ke) (sc (Iz 2 ke) (sc (Iz 1 ke) (sc (Iz 0 ke) rfl)))))));have Z4:=hb.size;have H1:=keep hb H1;obtain ⟨hB,zB⟩:=IQ hb hB;have I4:=aP hF hB b1;have f5:((kW F w0 w4 b1)) I5:=(.inl J9);have f6:((kW F w0 w4 b1)) IU:=(.inl c2F);refine kD r (tZ (F:=(kW F w0 w4 b1)) (n:=n) I4 (D.dK c0) c1 (D.fV c1 a0) ⟨280,[],[zp I5,zp IU],Gy,rfl,fun m hm x w' hs hz=>AY (fun b hb=>q9 (I4 b hb) hz) (fun m' hm'=>HW m' O) c0 f5 (hs.at_ f5 (keep hB I3)) c2 f6 (hs.at_ f6 (keep hB IR)) x⟩) rfl yd rfl fun w7 v8 hb hr9 r=>?_;have Z7:=hb.size
 have H1:=keep hb H1;obtain ⟨hB,zB⟩:=IQ hb hB;refine kP r hr9.shape rfl rfl H1 bv rfl rfl fun J8 JG r=>?_;have Z10:=JG.size
 have H1:=JG.at_;obtain ⟨hB,zB⟩:=JG.on hB O
 exact wn (q4 (kR r hr9 rfl rfl H1 rfl bu hF hB JG O O O))
theorem Cg {HJ:Plan->T Int} (hF:kH F w0) (HW:∀ m,m<n->lr HJ m)
    (c0:Plan) {I5:Nat} (J9:F I5) (I3:w0.heap[I5]?=some (.cells ((ac c0)).toArray 23 (0,0))) (a0:Int) :
    Calls B0 276 #[.int .u64 a0,zp I5] w0 (aH B0 aj n (D.gV HJ c0 a0) F w0):=by
 refine kN Tryz.func276 rfl 18 rfl rfl fun fr r hB=>?_;have Jq:=q8 I3
 refine I0 ?_;refine kX 34 (U a0) r rfl rfl fun b1 w2 n3 r=>?_;obtain ⟨E1,Z2,H1,hB,zB⟩:=n3.all hB
 refine ah (.cells (kq aj) 119 (0,0)) r (fun R=>ag bP) rfl fun fr b4 w5 n6 r=>?_;have H1:=keep n6.below H1
 obtain ⟨E4,Z5,H4,hB,zB⟩:=n6.all hB;refine wn (d9 ?_);refine bI 6 [.val (z6 (aR D.cj)),.val (U a0),.val (U (D.bN D.cj a0)),.val (I (W (D.bN D.cj a0))),.val (I (W ((W (D.bN D.cj a0)) - 1))),.new w5.heap.size (.cells #[(I 0)] 3 (0,0))] mixed r kz (kV (kV (kV (kV (kV (ct (Nat.le_refl _) bH)))))) ?_ ?_
 ·
  refine ec r (fun I2 u w' hb' hd r'=>aN r' (args:=[]) (l0) su ((qF _ ).mono JL)) (ec r (fun _ u _ b d s=>ax s rfl (keep b H1) Ja rfl bz) (ec r (fun I2 u w' hb' hd r'=>aN r' (args:=[(z6 (aR D.cj)),(U a0)]) (lc hd.1 (lc hd.2.1 l0)) mC ((mY _ D.cj a0).mono JL)) (ec r (fun _ u _ b d s=>cV s (n:=(D.bN D.cj a0)) d.1 KO ti3 bz) (ec r (fun _ u _ b d s=>bd s d.1 rfl rfl rfl bz) (ec r (fun I2 u w' hb' hd r'=>ag tz3 (fun b w2 n2=>⟨n2.below,b,rfl,Nat.le_of_eq n2.eq.symm,n2.at_⟩)) ?_)))));exact bJ
 intro fr u w7 hb Iz hne r;obtain ⟨b8,g5,E8,H8⟩:=Iz 5 ke;have l_b8:=q8 H8;have r:=r.congr (sc g5 (sc (Iz 4 ke) (sc (Iz 3 ke) (sc (Iz 2 ke) (sc (Iz 1 ke) (sc (Iz 0 ke) rfl))))));have Z7:=hb.size;have H1:=keep hb H1;have H4:=keep hb H4;obtain ⟨hB,zB⟩:=IQ hb hB;refine aM (.cells #[(I (W ((W (D.bN D.cj a0)) - 1)))] 3 (0,0)) r (fun R=>bb r (o:=0) (v:=(I (W ((W (D.bN D.cj a0)) - 1)))) rfl rfl H8 ts3 u7 rfl rfl) rfl fun fr w9 u10 r=>?_;have Z9:=u10.size
 have H1:=u10.keep H1 O
 have H4:=u10.keep H4 O
 have H8:=u10.at_;obtain ⟨hB,zB⟩:=u10.on hB O
 refine wn (d9 (I0 (kL (I (W ((W (D.bN D.cj a0)) - 1))) r rfl H8 IL rfl rfl fun r=>kB r rfl rfl rfl rfl rfl fun r=>wn ?_)));refine q5 (t:=(decide ((W ((W (D.bN D.cj a0)) - 1))<0))) (r.ev rfl) (fun h11=>?_) (fun h11=>?_)
 ·
  refine I0 ?_;have I4:=aP hF hB b4;refine kD r (eT (F:=(kW F w0 w9 b4)) (n:=n) I4 (-1)) rfl fe rfl fun w12 v13 hb hr14 r=>?_;have Z12:=hb.size
  have H1:=keep hb H1;have H4:=keep hb H4;have H8:=keep hb H8;obtain ⟨hB,zB⟩:=IQ hb hB;refine kP r hr14.shape rfl rfl H4 bv rfl rfl fun w15 u16 r=>?_;have Z15:=u16.size
  have H1:=u16.keep H1 O
  have H8:=u16.keep H8 O
  have H4:=u16.at_;obtain ⟨hB,zB⟩:=u16.on hB O
  refine wn (q4 ?_);have hd:D.gV HJ c0 a0=(D.df (-1)):=(ar h11).trans (rfl);have hs:=hr14.shape.cells;refine ak r rfl rfl H4 (k:=7) hs.1 bu ?_;rw [<-hs.2.2,hd];exact JR hF hB hr14 u16 O O O
 refine q7 (I0 (kG (ac c0) 6 r rfl (keep hB I3) IJ rfl rfl fun r=>kL (I (W ((W (D.bN D.cj a0)) - 1))) r rfl H8 IL rfl rfl fun r=>?_));refine kE r (nu w9 c0 (W ((W (D.bN D.cj a0)) - 1))) rfl pG rfl fun w17 hb r=>?_
 have Z17:=hb.size;have H1:=keep hb H1;have H4:=keep hb H4;have H8:=keep hb H8;obtain ⟨hB,zB⟩:=IQ hb hB;refine aa (.func (.func 277) #[] #[zp I5,zp b1,zp b8]) r (fun R=>aZ r rfl) rfl fun fr r=>?_;have I4:=aP hF hB b4
 have f18:((kW F w0 w17 b4)) I5:=(.inl J9);have f19:((kW F w0 w17 b4)) b1:=(.inr ⟨O,O,O⟩)
 have f20:((kW F w0 w17 b4)) b8:=(.inr ⟨O,O,O⟩)
 refine kD r (fP (F:=(kW F w0 w17 b4)) (n:=n) I4 (D.dQ c0 (W ((W (D.bN D.cj a0)) - 1))) ⟨277,[],[zp I5,zp b1,zp b8],GH,rfl,fun m hm x w' hs hz=>BP (fun b hb=>q9 (I4 b hb) hz) (fun m' hm'=>HW m' O) c0 f18 (hs.at_ f18 (keep hB I3)) a0 f19 (hs.at_ f19 H1) (W ((W (D.bN D.cj a0)) - 1)) f20 (hs.at_ f20 H8) x⟩) rfl gx rfl fun w21 v22 hb hr23 r=>?_;have Z21:=hb.size
 have H1:=keep hb H1;have H4:=keep hb H4;have H8:=keep hb H8;obtain ⟨hB,zB⟩:=IQ hb hB;refine kP r hr23.shape rfl rfl H4 bv rfl rfl fun w24 u25 r=>?_;have Z24:=u25.size
 have H1:=u25.keep H1 O
 have H8:=u25.keep H8 O
 have H4:=u25.at_;obtain ⟨hB,zB⟩:=u25.on hB O
 refine wn (q4 ?_);have hd:D.gV HJ c0 a0=(D.dL (D.dQ c0 (W ((W (D.bN D.cj a0)) - 1))) (fun x=>(D.lG HJ c0 a0 (W ((W (D.bN D.cj a0)) - 1)) x))):=(ai h11).trans (rfl)
 have hs:=hr23.shape.cells;refine ak r rfl rfl H4 (k:=7) hs.1 bu ?_;rw [<-hs.2.2,hd];exact JR hF hB hr23 u25 O O O
theorem CE {n:Nat} {F:Nat->Prop} {HJ:Plan->T Int} {w0:World} (hF:∀ b,F b->b<w0.heap.size) (HW:∀ m,m<n->lr HJ m)
    (a0:Plan) :
    Calls B0 182 #[z6 (ac a0)] w0 (aH B0 aj n (D.jw HJ a0) F w0):=by
 refine kN Tryz.func182 rfl 7 rfl rfl fun fr r hB=>?_;refine I0 ?_
 refine kX 23 (z6 (ac a0)) r rfl rfl fun b1 w2 n3 r=>?_;obtain ⟨E1,Z2,H1,hB,zB⟩:=n3.all hB
 refine ah (.cells (kq aj) 119 (0,0)) r (fun R=>ag bP) rfl fun fr b4 w5 n6 r=>?_;have H1:=keep n6.below H1
 obtain ⟨E4,Z5,H4,hB,zB⟩:=n6.all hB;refine wn (I0 (kG (ac a0) 6 r rfl H1 IJ rfl rfl fun r=>?_));refine kE r (lf w5 a0) rfl mF rfl fun w7 hb r=>?_
 have Z7:=hb.size;have H1:=keep hb H1;have H4:=keep hb H4;obtain ⟨hB,zB⟩:=IQ hb hB;refine aa (.func (.func 276) #[] #[zp b1]) r (fun R=>aZ r rfl) rfl fun fr r=>?_;have I4:=aP hF hB b4
 have f8:((kW F w0 w7 b4)) b1:=(.inr ⟨O,O,O⟩)
 refine kD r (fP (F:=(kW F w0 w7 b4)) (n:=n) I4 (D.dK a0) ⟨276,[],[zp b1],Hc,rfl,fun m hm x w' hs hz=>Cg (fun b hb=>q9 (I4 b hb) hz) (fun m' hm'=>HW m' O) a0 f8 (hs.at_ f8 H1) x⟩) rfl gx rfl fun w9 v10 hb hr11 r=>?_;have Z9:=hb.size
 have H1:=keep hb H1;have H4:=keep hb H4;obtain ⟨hB,zB⟩:=IQ hb hB;refine kP r hr11.shape rfl rfl H4 bv rfl rfl fun w12 u13 r=>?_;have Z12:=u13.size
 have H1:=u13.keep H1 O
 have H4:=u13.at_;obtain ⟨hB,zB⟩:=u13.on hB O
 exact wn (q4 (kR r hr11 rfl rfl H4 rfl bu hF hB u13 O O O))
theorem uN {n:Nat} {k:Nat} (hk:n<k):lr (D.di k) n:=by
 induction n using Nat.strongRecOn generalizing k with
 | _ n ih=>
  obtain ⟨k,rfl⟩:∃ q,k=q+1:=⟨k - 1,O⟩
  intro F w0 hF;have h:=@CE n F (D.di k) w0 hF (fun m hm=>ih m hm O)
  exact h
def D.jm (H3:Plan->Int->T Int) (c0:Plan) (c1:Int) (a0:Bool):T Int:=(bif (!a0) then (H3 c0 c1) else (D.df c1))
def D.nJ (H3:Plan->Int->T Int) (c0:Plan) (c1:Int) (c2:Int):T Int:=(D.qu (D.dK c0) c1 (D.fV c1 (D.dC c2)) (fun x=>(D.jm H3 c0 c2 x)))
def D.lK (H3:Plan->Int->T Int) (c0:Plan) (c1:Int) (a0:Int):T Int:=(D.ee (D.dQ c0 c1) (D.bN D.cj a0) (fun _=>(D.nJ H3 c0 a0 c1)))
def D.ju (H3:Plan->Int->T Int) (a0:Plan) (a1:Int):T Int:=(bif ((D.dQ a0 a1)==(-1)) then (D.df (-1)) else (D.dL (D.dK a0) (fun x=>(D.lK H3 a0 a1 x))))
def D.eU:Nat->Plan->Int->T Int
 | 0,_,_=>.cut
 | k+1,a0,a1=>D.ju (D.eU k) a0 a1
def lm (r:Plan->Int->T Int) (n:Nat):Prop:=∀ (F:Nat->Prop) (w0:World),(∀ b,F b->b<w0.heap.size)->∀ (a0:Plan) (a1:Int),Calls B0 310 #[z6 (ac a0),.int .i64 a1] w0 (aH B0 aj n (r a0 a1) F w0)
theorem AQ {H3:Plan->Int->T Int} (hF:kH F w0) (HU:∀ m,m<=n->lm H3 m)
    (c0:Plan) {I5:Nat} (J9:F I5) (I3:w0.heap[I5]?=some (.cells ((ac c0)).toArray 23 (0,0))) (c1:Int) {IE:Nat} (Ka:F IE) (IA:w0.heap[IE]?=some (.cells ([(.int .i64 c1)]).toArray 3 (0,0))) (a0:Bool) :
    Calls B0 357 #[.bool a0,zp I5,zp IE] w0 (aH B0 aj n (D.jm H3 c0 c1 a0) F w0):=by
 refine kN Tryz.func357 rfl 12 rfl rfl fun fr r hB=>?_;have Jq:=q8 I3
 have Jy:=q8 IA;refine I0 ?_;refine ah (.cells (kq aj) 119 (0,0)) r (fun R=>ag bP) rfl fun fr b1 w2 n3 r=>?_;obtain ⟨E1,Z2,H1,hB,zB⟩:=n3.all hB
 refine wn (d9 (I0 (kM (.bool a0) r rfl rfl fun r=>aa (.bool (!a0)) r (fun R=>JQ r (u:=(.bool a0)) rfl rfl) rfl fun fr r=>wn ?_)));refine q5 (t:=(!a0)) (r.ev rfl) (fun h4=>?_) (fun h4=>?_)
 ·
  refine I0 (kG (ac c0) 6 r rfl (keep hB I3) IJ rfl rfl fun r=>kL (I c1) r rfl (keep hB IA) IL rfl rfl fun r=>?_);have I4:=aP hF hB b1
  refine kD r ((HU n O) (kW F w0 w2 b1) _ I4 c0 c1) rfl xZ rfl fun w5 v6 hb Kj r=>?_;have Z5:=hb.size
  have H1:=keep hb H1;obtain ⟨hB,zB⟩:=IQ hb hB;refine kP r Kj.shape rfl rfl H1 bv rfl rfl fun w8 u9 r=>?_;have Z8:=u9.size
  have H1:=u9.at_;obtain ⟨hB,zB⟩:=u9.on hB O
  refine wn (q4 ?_);have hd:D.jm H3 c0 c1 a0=(H3 c0 c1):=(ar h4).trans (rfl);have hs:=Kj.shape.cells;refine ak r rfl rfl H1 (k:=7) hs.1 bu ?_;rw [<-hs.2.2,hd];exact JR hF hB Kj u9 O O O
 refine q7 (I0 (kL (I c1) r rfl (keep hB IA) IL rfl rfl fun r=>?_));have I4:=aP hF hB b1
 refine kD r (eT (F:=(kW F w0 w2 b1)) (n:=n) I4 c1) rfl fe rfl fun J8 v11 hb Jl r=>?_;have Z10:=hb.size
 have H1:=keep hb H1;obtain ⟨hB,zB⟩:=IQ hb hB;refine kP r Jl.shape rfl rfl H1 bv rfl rfl fun Kc Kr r=>?_;have Z13:=Kr.size
 have H1:=Kr.at_;obtain ⟨hB,zB⟩:=Kr.on hB O
 refine wn (q4 ?_);have hd:D.jm H3 c0 c1 a0=(D.df c1):=(ai h4).trans (rfl);have hs:=Jl.shape.cells;refine ak r rfl rfl H1 (k:=7) hs.1 bu ?_;rw [<-hs.2.2,hd];exact JR hF hB Jl Kr O O O
theorem Bk {H3:Plan->Int->T Int} (hF:kH F w0) (HU:∀ m,m<n->lm H3 m)
    (c0:Plan) {I5:Nat} (J9:F I5) (I3:w0.heap[I5]?=some (.cells ((ac c0)).toArray 23 (0,0))) (c1:Int) {IE:Nat} (Ka:F IE) (IA:w0.heap[IE]?=some (.cells ([(.int .u64 c1)]).toArray 34 (0,0))) (c2:Int) {IU:Nat} (c2F:F IU) (IR:w0.heap[IU]?=some (.cells ([(.int .i64 c2)]).toArray 3 (0,0))) :
    Calls B0 356 #[zp I5,zp IE,zp IU] w0 (aH B0 aj n (D.nJ H3 c0 c1 c2) F w0):=by
 refine kN Tryz.func356 rfl 13 rfl rfl fun fr r hB=>?_;have Jq:=q8 I3
 have Jy:=q8 IA;have Kg:=q8 IR;refine I0 ?_;refine ah (.cells (kq aj) 119 (0,0)) r (fun R=>ag bP) rfl fun fr b1 w2 n3 r=>?_;obtain ⟨E1,Z2,H1,hB,zB⟩:=n3.all hB
 refine wn (d9 ?_);refine bI 8 [.val (z6 (ac c0)),.val (I (D.dK c0)),.val (U c1),.val (U c1),.val (I c2),.val (U (D.dC c2)),.val (U (D.fV c1 (D.dC c2))),.val (.func (.func 357) #[] #[zp I5,zp IU])] mixed r kz (kV (kV (kV (kV (kV (kV (kV (kV bH)))))))) ?_ ?_
 ·
  refine ec r (fun _ u _ b d s=>aU s (cs:=(ac c0)) (n:=6) rfl (cr hB b I3) IJ rfl bz) (ec r (fun I2 u w' hb' hd r'=>aN r' (args:=[(z6 (ac c0))]) (lc hd.1 l0) mF ((lf _ c0).mono JL)) (ec r (fun _ u _ b d s=>ax s rfl (cr hB b IA) Ja rfl bz) (ec r (fun _ u _ b d s=>ax s rfl (cr hB b IA) Ja rfl bz) (ec r (fun _ u _ b d s=>ax s rfl (cr hB b IR) IL rfl bz) (ec r (fun I2 u w' hb' hd r'=>aN r' (args:=[(I c2)]) (lc hd.1 l0) sM ((qJ _ c2).mono JL)) (ec r (fun I2 u w' hb' hd r'=>aN r' (args:=[(U c1),(U (D.dC c2))]) (lc hd.1 (lc hd.2.1 l0)) xE ((ux _ c1 (D.dC c2)).mono JL)) (ec r (fun _ u _ b d s=>aZ s (v:=(.func (.func 357) #[] #[zp I5,zp IU])) rfl bz) ?_)))))));exact bJ
 intro fr u w4 hb Iz hne r;have r:=r.congr (sc (Iz 7 ke) (sc (Iz 6 ke) (sc (Iz 5 ke) (sc (Iz 4 ke) (sc (Iz 3 ke) (sc (Iz 2 ke) (sc (Iz 1 ke) (sc (Iz 0 ke) rfl))))))));have Z4:=hb.size;have H1:=keep hb H1;obtain ⟨hB,zB⟩:=IQ hb hB;have I4:=aP hF hB b1;have f5:((kW F w0 w4 b1)) I5:=(.inl J9);have f6:((kW F w0 w4 b1)) IU:=(.inl c2F);refine kD r (tZ (F:=(kW F w0 w4 b1)) (n:=n) I4 (D.dK c0) c1 (D.fV c1 (D.dC c2)) ⟨357,[],[zp I5,zp IU],Hb,rfl,fun m hm x w' hs hz=>AQ (fun b hb=>q9 (I4 b hb) hz) (fun m' hm'=>HU m' O) c0 f5 (hs.at_ f5 (keep hB I3)) c2 f6 (hs.at_ f6 (keep hB IR)) x⟩) rfl yd rfl fun w7 v8 hb hr9 r=>?_;have Z7:=hb.size
 have H1:=keep hb H1;obtain ⟨hB,zB⟩:=IQ hb hB;refine kP r hr9.shape rfl rfl H1 bv rfl rfl fun J8 JG r=>?_;have Z10:=JG.size
 have H1:=JG.at_;obtain ⟨hB,zB⟩:=JG.on hB O
 exact wn (q4 (kR r hr9 rfl rfl H1 rfl bu hF hB JG O O O))
theorem BT {H3:Plan->Int->T Int} (hF:kH F w0) (HU:∀ m,m<n->lm H3 m)
    (c0:Plan) {I5:Nat} (J9:F I5) (I3:w0.heap[I5]?=some (.cells ((ac c0)).toArray 23 (0,0))) (c1:Int) {IE:Nat} (Ka:F IE) (IA:w0.heap[IE]?=some (.cells ([(.int .i64 c1)]).toArray 3 (0,0))) (a0:Int) :
    Calls B0 355 #[.int .u64 a0,zp I5,zp IE] w0 (aH B0 aj n (D.lK H3 c0 c1 a0) F w0):=by
 refine kN Tryz.func355 rfl 13 rfl rfl fun fr r hB=>?_;have Jq:=q8 I3
 have Jy:=q8 IA;refine I0 ?_;refine kX 34 (U a0) r rfl rfl fun b1 w2 n3 r=>?_;obtain ⟨E1,Z2,H1,hB,zB⟩:=n3.all hB
 refine ah (.cells (kq aj) 119 (0,0)) r (fun R=>ag bP) rfl fun fr b4 w5 n6 r=>?_;have H1:=keep n6.below H1
 obtain ⟨E4,Z5,H4,hB,zB⟩:=n6.all hB;refine wn (d9 ?_);refine bI 7 [.val (z6 (ac c0)),.val (I c1),.val (I (D.dQ c0 c1)),.val (z6 (aR D.cj)),.val (U a0),.val (U (D.bN D.cj a0)),.val (.func (.func 356) #[] #[zp I5,zp b1,zp IE])] mixed r kz (kV (kV (kV (kV (kV (kV (kV bH))))))) ?_ ?_
 ·
  refine ec r (fun _ u _ b d s=>aU s (cs:=(ac c0)) (n:=6) rfl (cr hB b I3) IJ rfl bz) (ec r (fun _ u _ b d s=>ax s rfl (cr hB b IA) IL rfl bz) (ec r (fun I2 u w' hb' hd r'=>aN r' (args:=[(z6 (ac c0)),(I c1)]) (lc hd.1 (lc hd.2.1 l0)) pG ((nu _ c0 c1).mono JL)) (ec r (fun I2 u w' hb' hd r'=>aN r' (args:=[]) (l0) su ((qF _ ).mono JL)) (ec r (fun _ u _ b d s=>ax s rfl (keep b H1) Ja rfl bz) (ec r (fun I2 u w' hb' hd r'=>aN r' (args:=[(z6 (aR D.cj)),(U a0)]) (lc hd.1 (lc hd.2.1 l0)) mC ((mY _ D.cj a0).mono JL)) (ec r (fun _ u _ b d s=>aZ s (v:=(.func (.func 356) #[] #[zp I5,zp b1,zp IE])) rfl bz) ?_))))));exact bJ
 intro fr u w7 hb Iz hne r;have r:=r.congr (sc (Iz 6 ke) (sc (Iz 5 ke) (sc (Iz 4 ke) (sc (Iz 3 ke) (sc (Iz 2 ke) (sc (Iz 1 ke) (sc (Iz 0 ke) rfl)))))));have Z7:=hb.size;have H1:=keep hb H1;have H4:=keep hb H4;obtain ⟨hB,zB⟩:=IQ hb hB;have I4:=aP hF hB b4;have f8:((kW F w0 w7 b4)) I5:=(.inl J9);have f9:((kW F w0 w7 b4)) b1:=(.inr ⟨O,O,O⟩)
 have f10:((kW F w0 w7 b4)) IE:=(.inl Ka);refine kD r (gH (F:=(kW F w0 w7 b4)) (n:=n) I4 (D.dQ c0 c1) (D.bN D.cj a0) ⟨356,[],[zp I5,zp b1,zp IE],FD,rfl,fun m hm _ w' hs hz=>Bk (fun b hb=>q9 (I4 b hb) hz) (fun m' hm'=>HU m' O) c0 f8 (hs.at_ f8 (keep hB I3)) a0 f9 (hs.at_ f9 H1) c1 f10 (hs.at_ f10 (keep hB IA))⟩) rfl iz rfl fun JV v12 hb KA r=>?_;have Z11:=hb.size
 have H1:=keep hb H1;have H4:=keep hb H4;obtain ⟨hB,zB⟩:=IQ hb hB;refine kP r KA.shape rfl rfl H4 bv rfl rfl fun w14 u15 r=>?_;have Z14:=u15.size
 have H1:=u15.keep H1 O
 have H4:=u15.at_;obtain ⟨hB,zB⟩:=u15.on hB O
 exact wn (q4 (kR r KA rfl rfl H4 rfl bu hF hB u15 O O O))
theorem Cq {n:Nat} {F:Nat->Prop} {H3:Plan->Int->T Int} {w0:World} (hF:∀ b,F b->b<w0.heap.size) (HU:∀ m,m<n->lm H3 m)
    (a0:Plan) (a1:Int) :
    Calls B0 310 #[z6 (ac a0),.int .i64 a1] w0 (aH B0 aj n (D.ju H3 a0 a1) F w0):=by
 refine kN Tryz.func310 rfl 14 rfl rfl fun fr r hB=>?_;refine I0 ?_
 refine kX 23 (z6 (ac a0)) r rfl rfl fun b1 w2 n3 r=>?_;obtain ⟨E1,Z2,H1,hB,zB⟩:=n3.all hB
 refine kX 3 (I a1) r rfl rfl fun b4 w5 n6 r=>?_;have H1:=keep n6.below H1
 obtain ⟨E4,Z5,H4,hB,zB⟩:=n6.all hB;refine ah (.cells (kq aj) 119 (0,0)) r (fun R=>ag bP) rfl fun fr b7 w8 n9 r=>?_;have H1:=keep n9.below H1
 have H4:=keep n9.below H4;obtain ⟨E7,Z8,H7,hB,zB⟩:=n9.all hB;refine wn (d9 (I0 (kG (ac a0) 6 r rfl H1 IJ rfl rfl fun r=>kL (I a1) r rfl H4 IL rfl rfl fun r=>?_)));refine kE r (nu w8 a0 a1) rfl pG rfl fun J8 hb r=>?_
 have Z10:=hb.size;have H1:=keep hb H1;have H4:=keep hb H4;have H7:=keep hb H7;obtain ⟨hB,zB⟩:=IQ hb hB;refine kB r rfl rfl rfl rfl rfl fun r=>wn ?_;refine q5 (t:=((D.dQ a0 a1)==(-1))) (r.ev rfl) (fun h11=>?_) (fun h11=>?_)
 ·
  refine I0 ?_;have I4:=aP hF hB b7;refine kD r (eT (F:=(kW F w0 J8 b7)) (n:=n) I4 (-1)) rfl fe rfl fun w12 v13 hb hr14 r=>?_;have Z12:=hb.size
  have H1:=keep hb H1;have H4:=keep hb H4;have H7:=keep hb H7;obtain ⟨hB,zB⟩:=IQ hb hB;refine kP r hr14.shape rfl rfl H7 bv rfl rfl fun w15 u16 r=>?_;have Z15:=u16.size
  have H1:=u16.keep H1 O
  have H4:=u16.keep H4 O
  have H7:=u16.at_;obtain ⟨hB,zB⟩:=u16.on hB O
  refine wn (q4 ?_);have hd:D.ju H3 a0 a1=(D.df (-1)):=(ar h11).trans (rfl);have hs:=hr14.shape.cells;refine ak r rfl rfl H7 (k:=7) hs.1 bu ?_;rw [<-hs.2.2,hd];exact JR hF hB hr14 u16 O O O
 refine q7 (I0 (kG (ac a0) 6 r rfl H1 IJ rfl rfl fun r=>?_));refine kE r (lf J8 a0) rfl mF rfl fun w17 hb r=>?_
 have Z17:=hb.size;have H1:=keep hb H1;have H4:=keep hb H4;have H7:=keep hb H7;obtain ⟨hB,zB⟩:=IQ hb hB;refine aa (.func (.func 355) #[] #[zp b1,zp b4]) r (fun R=>aZ r rfl) rfl fun fr r=>?_;have I4:=aP hF hB b7
 have f18:((kW F w0 w17 b7)) b1:=(.inr ⟨O,O,O⟩)
 have f19:((kW F w0 w17 b7)) b4:=(.inr ⟨O,O,O⟩)
 refine kD r (fP (F:=(kW F w0 w17 b7)) (n:=n) I4 (D.dK a0) ⟨355,[],[zp b1,zp b4],Fj,rfl,fun m hm x w' hs hz=>BT (fun b hb=>q9 (I4 b hb) hz) (fun m' hm'=>HU m' O) a0 f18 (hs.at_ f18 H1) a1 f19 (hs.at_ f19 H4) x⟩) rfl gx rfl fun w20 KF hb hr22 r=>?_;have Z20:=hb.size
 have H1:=keep hb H1;have H4:=keep hb H4;have H7:=keep hb H7;obtain ⟨hB,zB⟩:=IQ hb hB;refine kP r hr22.shape rfl rfl H7 bv rfl rfl fun w23 u24 r=>?_;have Z23:=u24.size
 have H1:=u24.keep H1 O
 have H4:=u24.keep H4 O
 have H7:=u24.at_;obtain ⟨hB,zB⟩:=u24.on hB O
 refine wn (q4 ?_);have hd:D.ju H3 a0 a1=(D.dL (D.dK a0) (fun x=>(D.lK H3 a0 a1 x))):=(ai h11).trans (rfl)
 have hs:=hr22.shape.cells;refine ak r rfl rfl H7 (k:=7) hs.1 bu ?_;rw [<-hs.2.2,hd];exact JR hF hB hr22 u24 O O O
theorem Cy {n:Nat} {k:Nat} (hk:n<k):lm (D.eU k) n:=by
 induction n using Nat.strongRecOn generalizing k with
 | _ n ih=>
  obtain ⟨k,rfl⟩:∃ q,k=q+1:=⟨k - 1,O⟩
  intro F w0 hF;have h:=@Cq n F (D.eU k) w0 hF (fun m hm=>ih m hm O)
  exact h
end
end Go.Proofs.YtbbipmelhmgmfaaGreat
