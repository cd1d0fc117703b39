/- Ours. -/
import Derived.Test.YtbbipmelhmgmfaaGreatDzLThens
set_option linter.all false
set_option maxRecDepth 100000
set_option maxHeartbeats 20000000
namespace Go.Proofs.YtbbipmelhmgmfaaGreat
open Go.RowKit
section
variable {n : Nat} {F : Nat -> Prop} {j : Nat} {w0 : World}
theorem Hq:af B0 398:=kz
theorem Gp:tyO B0 334:=kz
theorem tT (hF:kH F w0)
    (a0:Int) {Ks:FuncId} {HP HQ:List Value} {a1:(Int->T IM)} (a1n:K1 B0 aA u64 (n) F w0 (kf Ks HP HQ) a1) :
    Calls B0 99 #[.int .i64 a0,kf Ks HP HQ] w0 (av B0 aA n (D.gK a0 a1) F w0):=by
 refine kN Tryz.func99 rfl 9 rfl rfl fun fr r hB=>?_;refine I0 ?_
 refine ah (.cells (kq aA) 41 (0,0)) r (fun R=>ag JD) rfl fun fr b1 w2 n3 r=>?_;obtain ⟨eb1,zw2,hb1,hB,zB⟩:=n3.all hB
 refine wn (I0 (kM (I a0) r rfl rfl fun r=>kU (z6 (bh (⟨0,a0,0,0⟩:Access))) r kz rfl fun r=>kM (kf Ks HP HQ) r rfl rfl fun r=>?_));have I4:=cw hF hB.size b1
 refine kJ r (iJ (F:=(kW F w0 w2 b1)) (n:=n) I4 (⟨0,a0,0,0⟩:Access) (a1n.mono O (fun b h=>.inl h) (I8.below hB hF) hB.size)) rfl jd rfl fun w4 v5 hb J0 r=>?_;have zw4:=hb.size
 have hb1:=bc hb hb1 Kl
 have hB:=Jd.aS (Z:=F) hB;have hB:=hB.bn hb yad
 have zB:=hB.size;refine kP r J0.shape rfl rfl hb1 Ju rfl rfl fun w7 u8 r=>?_;have zw7:=u8.size
 have hb1:=u8.at_;have hB:=hB.bm u8 (.inl O)
 have zB:=hB.size;refine wn (q4 ?_);have hs:=J0.shape.cells;refine ak r rfl rfl hb1 (k:=8) hs.1 Jt ?_;rw [<-hs.2.2];exact av.fin hB J0 u8 yac Kl O O O
theorem Ar (hF:kH F w0)
    {c0f:FuncId} {K8 K9:List Value} {c0:(Bool->T IM)} {I5:Nat} (J9:F I5) (I3:w0.heap[I5]?=some (.cells #[kf c0f K8 K9] 200 (0,0))) (c0n:K1 B0 aA aF (n+1) F w0 (kf c0f K8 K9) c0) (c1:Int) {IE:Nat} (Ka:F IE) (IA:w0.heap[IE]?=some (.cells ([(.int .u64 c1)]).toArray 34 (0,0))) (a0:Int) :
    Calls B0 204 #[.int .u64 a0,zp I5,zp IE] w0 (av B0 aA n (D.tY c0 c1 a0) F w0):=by
 refine kN Tryz.func204 rfl 10 rfl rfl fun fr r hB=>?_;have Jq:=q8 I3
 have Jy:=q8 IA;refine I0 ?_;refine ah (.cells (kq aA) 41 (0,0)) r (fun R=>ag JD) rfl fun fr b1 w2 n3 r=>?_;have I3:=keep n3.below I3
 have IA:=keep n3.below IA;obtain ⟨eb1,zw2,hb1,hB,zB⟩:=n3.all hB;refine wn (I0 (kL (kf c0f K8 K9) r rfl I3 FF rfl rfl fun r=>kM (U a0) r rfl rfl fun r=>kL (U c1) r rfl IA Ja rfl rfl fun r=>kB r rfl rfl rfl rfl rfl fun r=>?_));refine cS r (c0n.at_.2 n (Nat.lt_succ_self n) (a0==c1) w2 (I8.below hB hF) hB.size) (fun R hc=>dM r rfl rfl c0n.at_.1 hc) rfl ?_
 rintro _ w4 ⟨v5,rfl,hb,J0⟩;refine ⟨_,rfl,fun fr r=>?_⟩
 have zw4:=hb.size;have hb1:=bc hb hb1 (fun h=>by have:=hF _ h; omega)
 have hB:=Jd.aS (Z:=F) hB;have hB:=hB.bn hb (fun _ _ h=>h)
 have zB:=hB.size;refine kP r J0.shape rfl rfl hb1 Ju rfl rfl fun w7 u8 r=>?_;have zw7:=u8.size
 have hb1:=u8.at_;have hB:=hB.bm u8 (.inl O)
 have zB:=hB.size;refine wn (q4 ?_);have hs:=J0.shape.cells;refine ak r rfl rfl hb1 (k:=8) hs.1 Jt ?_;rw [<-hs.2.2];exact av.fin hB J0 u8 (fun b hb=>.inl hb) (fun h=>by have:=hF _ h; omega) O O O
theorem qf (hF:kH F w0)
    (a0:Int) (a1:Int) (a2:Int) {a3f:FuncId} {Ik Il:List Value} {a3:(Bool->T IM)} (a3n:K1 B0 aA aF (n) F w0 (kf a3f Ik Il) a3) :
    Calls B0 118 #[.int .i64 a0,.int .u64 a1,.int .u64 a2,kf a3f Ik Il] w0 (av B0 aA n (D.jx a0 a1 a2 a3) F w0):=by
 refine kN Tryz.func118 rfl 15 rfl rfl fun fr r hB=>?_;refine I0 ?_
 refine kX 34 (U a1) r rfl rfl fun b1 w2 n3 r=>?_;obtain ⟨eb1,zw2,hb1,hB,zB⟩:=n3.all hB
 refine kX 200 (kf a3f Ik Il) r rfl rfl fun b4 w5 n6 r=>?_;have hb1:=keep n6.below hb1
 obtain ⟨eb4,zw5,Jc,hB,zB⟩:=n6.all hB;refine ah (.cells (kq aA) 41 (0,0)) r (fun R=>ag JD) rfl fun fr b7 w8 n9 r=>?_;have hb1:=keep n9.below hb1
 have Jc:=keep n9.below Jc;obtain ⟨eb7,zw8,JA,hB,zB⟩:=n9.all hB;refine wn (I0 (kM (I a0) r rfl rfl fun r=>kL (U a1) r rfl hb1 Ja rfl rfl fun r=>kM (U a2) r rfl rfl fun r=>kU (z6 (bh (⟨2,a0,a1,a2⟩:Access))) r kz rfl fun r=>aa (.func (.func 204) #[] #[zp b4,zp b1]) r (fun R=>aZ r rfl) rfl fun fr r=>?_));have I4:=cw hF hB.size b7
 have f13:((kW F w0 w8 b7)) b4:=(.inr ⟨O,O,O⟩)
 have f14:((kW F w0 w8 b7)) b1:=(.inr ⟨O,O,O⟩)
 refine kJ r (iJ (F:=(kW F w0 w8 b7)) (n:=n) I4 (⟨2,a0,a1,a2⟩:Access) ⟨204,[],[zp b4,zp b1],Gd,rfl,fun m hm x w' hs hz=>Ar (fun b hb=>q9 (I4 b hb) hz) f13 (hs.at_ f13 Jc) (a3n.mono O (fun b h=>.inl h) ((I8.below hB hF).trans (hs.sub (fun b h=>.inl h))) (Nat.le_trans hB.size hz)) a1 f14 (hs.at_ f14 hb1) x⟩) rfl jd rfl fun J8 v11 hb Jl r=>?_;have zw10:=hb.size
 have JA:=bc hb JA Kl
 have hB:=Jd.aS (Z:=F) hB;have hB:=hB.bn hb yad
 have zB:=hB.size;refine kP r Jl.shape rfl rfl JA Ju rfl rfl fun w15 u16 r=>?_;have zw15:=u16.size
 have JA:=u16.at_;have hB:=hB.bm u16 (.inl O)
 have zB:=hB.size;refine wn (q4 ?_);have hs:=Jl.shape.cells;refine ak r rfl rfl JA (k:=8) hs.1 Jt ?_;rw [<-hs.2.2];exact av.fin hB Jl u16 yac Kl O O O
theorem Ai (hF:kH F w0)
    {c0f:FuncId} {K8 K9:List Value} {c0:(Unit->T IM)} {I5:Nat} (J9:F I5) (I3:w0.heap[I5]?=some (.cells #[kf c0f K8 K9] 171 (0,0))) (c0n:K1 B0 aA unitE (n+1) F w0 (kf c0f K8 K9) c0) (a0:Int) :
    Calls B0 214 #[.int .u64 a0,zp I5] w0 (av B0 aA n (D.tN c0 a0) F w0):=by
 refine kN Tryz.func214 rfl 6 rfl rfl fun fr r hB=>?_;have Jq:=q8 I3
 refine I0 ?_;refine ah (.cells (kq aA) 41 (0,0)) r (fun R=>ag JD) rfl fun fr b1 w2 n3 r=>?_;have I3:=keep n3.below I3
 obtain ⟨eb1,zw2,hb1,hB,zB⟩:=n3.all hB;refine wn (I0 (kL (kf c0f K8 K9) r rfl I3 GG rfl rfl fun r=>?_));refine cS r (c0n.at_.2 n (Nat.lt_succ_self n) () w2 (I8.below hB hF) hB.size) (fun R hc=>iW r rfl c0n.at_.1 hc) rfl ?_
 rintro _ w4 ⟨v5,rfl,hb,J0⟩;refine ⟨_,rfl,fun fr r=>?_⟩
 have zw4:=hb.size;have hb1:=bc hb hb1 (fun h=>by have:=hF _ h; omega)
 have hB:=Jd.aS (Z:=F) hB;have hB:=hB.bn hb (fun _ _ h=>h)
 have zB:=hB.size;refine kP r J0.shape rfl rfl hb1 Ju rfl rfl fun w7 u8 r=>?_;have zw7:=u8.size
 have hb1:=u8.at_;have hB:=hB.bm u8 (.inl O)
 have zB:=hB.size;refine wn (q4 ?_);have hs:=J0.shape.cells;refine ak r rfl rfl hb1 (k:=8) hs.1 Jt ?_;rw [<-hs.2.2];exact av.fin hB J0 u8 (fun b hb=>.inl hb) (fun h=>by have:=hF _ h; omega) O O O
theorem pV (hF:kH F w0)
    (a0:Int) (a1:Int) {a2f:FuncId} {Iw Iy:List Value} {a2:(Unit->T IM)} (a2n:K1 B0 aA unitE (n) F w0 (kf a2f Iw Iy) a2) :
    Calls B0 124 #[.int .i64 a0,.int .u64 a1,kf a2f Iw Iy] w0 (av B0 aA n (D.fq a0 a1 a2) F w0):=by
 refine kN Tryz.func124 rfl 12 rfl rfl fun fr r hB=>?_;refine I0 ?_
 refine kX 171 (kf a2f Iw Iy) r rfl rfl fun b1 w2 n3 r=>?_;obtain ⟨eb1,zw2,hb1,hB,zB⟩:=n3.all hB
 refine ah (.cells (kq aA) 41 (0,0)) r (fun R=>ag JD) rfl fun fr b4 w5 n6 r=>?_;have hb1:=keep n6.below hb1
 obtain ⟨eb4,zw5,Jc,hB,zB⟩:=n6.all hB;refine wn (I0 (kM (I a0) r rfl rfl fun r=>kM (U a1) r rfl rfl fun r=>kU (z6 (bh (⟨1,a0,a1,0⟩:Access))) r kz rfl fun r=>aa (.func (.func 214) #[] #[zp b1]) r (fun R=>aZ r rfl) rfl fun fr r=>?_));have I4:=cw hF hB.size b4
 have f10:((kW F w0 w5 b4)) b1:=(.inr ⟨O,O,O⟩)
 refine kJ r (iJ (F:=(kW F w0 w5 b4)) (n:=n) I4 (⟨1,a0,a1,0⟩:Access) ⟨214,[],[zp b1],GM,rfl,fun m hm x w' hs hz=>Ai (fun b hb=>q9 (I4 b hb) hz) f10 (hs.at_ f10 hb1) (a2n.mono O (fun b h=>.inl h) ((I8.below hB hF).trans (hs.sub (fun b h=>.inl h))) (Nat.le_trans hB.size hz)) x⟩) rfl jd rfl fun w7 v8 hb hr9 r=>?_;have zw7:=hb.size
 have Jc:=bc hb Jc Kl
 have hB:=Jd.aS (Z:=F) hB;have hB:=hB.bn hb yad
 have zB:=hB.size;refine kP r hr9.shape rfl rfl Jc Ju rfl rfl fun JV JH r=>?_;have zw11:=JH.size
 have Jc:=JH.at_;have hB:=hB.bm JH (.inl O)
 have zB:=hB.size;refine wn (q4 ?_);have hs:=hr9.shape.cells;refine ak r rfl rfl Jc (k:=8) hs.1 Jt ?_;rw [<-hs.2.2];exact av.fin hB hr9 JH yac Kl O O O
def D.iH (a0:Int) (a1:(Int->T Walk)):T Walk:=(D.qE (⟨0,a0,0,0⟩:Access) a1)
theorem mU (hF:kH F w0)
    (a0:Int) {Ks:FuncId} {HP HQ:List Value} {a1:(Int->T Walk)} (a1n:K1 B0 aK u64 (n) F w0 (kf Ks HP HQ) a1) :
    Calls B0 317 #[.int .i64 a0,kf Ks HP HQ] w0 (av B0 aK n (D.iH a0 a1) F w0):=by
 refine kN Tryz.func317 rfl 9 rfl rfl fun fr r hB=>?_;refine I0 ?_
 refine ah (.cells (kq aK) 224 (0,0)) r (fun R=>ag cB) rfl fun fr b1 w2 n3 r=>?_;obtain ⟨eb1,zw2,hb1,hB,zB⟩:=n3.all hB
 refine wn (I0 (kM (I a0) r rfl rfl fun r=>kU (z6 (bh (⟨0,a0,0,0⟩:Access))) r kz rfl fun r=>kM (kf Ks HP HQ) r rfl rfl fun r=>?_));have I4:=cw hF hB.size b1
 refine kJ r (li (F:=(kW F w0 w2 b1)) (n:=n) I4 (⟨0,a0,0,0⟩:Access) (a1n.mono O (fun b h=>.inl h) (I8.below hB hF) hB.size)) rfl mA rfl fun w4 v5 hb J0 r=>?_;have zw4:=hb.size
 have hb1:=bc hb hb1 Kl
 have hB:=Jd.aS (Z:=F) hB;have hB:=hB.bn hb yad
 have zB:=hB.size;refine kP r J0.shape rfl rfl hb1 cd rfl rfl fun w7 u8 r=>?_;have zw7:=u8.size
 have hb1:=u8.at_;have hB:=hB.bm u8 (.inl O)
 have zB:=hB.size;refine wn (q4 ?_);have hs:=J0.shape.cells;refine ak r rfl rfl hb1 (k:=20) hs.1 ce ?_;rw [<-hs.2.2];exact av.fin hB J0 u8 yac Kl O O O
def D.tP (c0:(Bool->T Walk)) (c1:Int) (a0:Int):T Walk:=(c0 (a0==c1))
theorem Aa (hF:kH F w0)
    {c0f:FuncId} {K8 K9:List Value} {c0:(Bool->T Walk)} {I5:Nat} (J9:F I5) (I3:w0.heap[I5]?=some (.cells #[kf c0f K8 K9] 334 (0,0))) (c0n:K1 B0 aK aF (n+1) F w0 (kf c0f K8 K9) c0) (c1:Int) {IE:Nat} (Ka:F IE) (IA:w0.heap[IE]?=some (.cells ([(.int .u64 c1)]).toArray 34 (0,0))) (a0:Int) :
    Calls B0 398 #[.int .u64 a0,zp I5,zp IE] w0 (av B0 aK n (D.tP c0 c1 a0) F w0):=by
 refine kN Tryz.func398 rfl 10 rfl rfl fun fr r hB=>?_;have Jq:=q8 I3
 have Jy:=q8 IA;refine I0 ?_;refine ah (.cells (kq aK) 224 (0,0)) r (fun R=>ag cB) rfl fun fr b1 w2 n3 r=>?_;have I3:=keep n3.below I3
 have IA:=keep n3.below IA;obtain ⟨eb1,zw2,hb1,hB,zB⟩:=n3.all hB;refine wn (I0 (kL (kf c0f K8 K9) r rfl I3 Gp rfl rfl fun r=>kM (U a0) r rfl rfl fun r=>kL (U c1) r rfl IA Ja rfl rfl fun r=>kB r rfl rfl rfl rfl rfl fun r=>?_));refine cS r (c0n.at_.2 n (Nat.lt_succ_self n) (a0==c1) w2 (I8.below hB hF) hB.size) (fun R hc=>dM r rfl rfl c0n.at_.1 hc) rfl ?_
 rintro _ w4 ⟨v5,rfl,hb,J0⟩;refine ⟨_,rfl,fun fr r=>?_⟩
 have zw4:=hb.size;have hb1:=bc hb hb1 (fun h=>by have:=hF _ h; omega)
 have hB:=Jd.aS (Z:=F) hB;have hB:=hB.bn hb (fun _ _ h=>h)
 have zB:=hB.size;refine kP r J0.shape rfl rfl hb1 cd rfl rfl fun w7 u8 r=>?_;have zw7:=u8.size
 have hb1:=u8.at_;have hB:=hB.bm u8 (.inl O)
 have zB:=hB.size;refine wn (q4 ?_);have hs:=J0.shape.cells;refine ak r rfl rfl hb1 (k:=20) hs.1 ce ?_;rw [<-hs.2.2];exact av.fin hB J0 u8 (fun b hb=>.inl hb) (fun h=>by have:=hF _ h; omega) O O O
def D.uf (a0:Int) (a1:Int) (a2:Int) (a3:(Bool->T Walk)):T Walk:=(D.qE (⟨2,a0,a1,a2⟩:Access) (fun x=>(D.tP a3 a1 x)))
theorem AG (hF:kH F w0)
    (a0:Int) (a1:Int) (a2:Int) {a3f:FuncId} {Ik Il:List Value} {a3:(Bool->T Walk)} (a3n:K1 B0 aK aF (n) F w0 (kf a3f Ik Il) a3) :
    Calls B0 388 #[.int .i64 a0,.int .u64 a1,.int .u64 a2,kf a3f Ik Il] w0 (av B0 aK n (D.uf a0 a1 a2 a3) F w0):=by
 refine kN Tryz.func388 rfl 15 rfl rfl fun fr r hB=>?_;refine I0 ?_
 refine kX 34 (U a1) r rfl rfl fun b1 w2 n3 r=>?_;obtain ⟨eb1,zw2,hb1,hB,zB⟩:=n3.all hB
 refine kX 334 (kf a3f Ik Il) r rfl rfl fun b4 w5 n6 r=>?_;have hb1:=keep n6.below hb1
 obtain ⟨eb4,zw5,Jc,hB,zB⟩:=n6.all hB;refine ah (.cells (kq aK) 224 (0,0)) r (fun R=>ag cB) rfl fun fr b7 w8 n9 r=>?_;have hb1:=keep n9.below hb1
 have Jc:=keep n9.below Jc;obtain ⟨eb7,zw8,JA,hB,zB⟩:=n9.all hB;refine wn (I0 (kM (I a0) r rfl rfl fun r=>kL (U a1) r rfl hb1 Ja rfl rfl fun r=>kM (U a2) r rfl rfl fun r=>kU (z6 (bh (⟨2,a0,a1,a2⟩:Access))) r kz rfl fun r=>aa (.func (.func 398) #[] #[zp b4,zp b1]) r (fun R=>aZ r rfl) rfl fun fr r=>?_));have I4:=cw hF hB.size b7
 have f13:((kW F w0 w8 b7)) b4:=(.inr ⟨O,O,O⟩)
 have f14:((kW F w0 w8 b7)) b1:=(.inr ⟨O,O,O⟩)
 refine kJ r (li (F:=(kW F w0 w8 b7)) (n:=n) I4 (⟨2,a0,a1,a2⟩:Access) ⟨398,[],[zp b4,zp b1],Hq,rfl,fun m hm x w' hs hz=>Aa (fun b hb=>q9 (I4 b hb) hz) f13 (hs.at_ f13 Jc) (a3n.mono O (fun b h=>.inl h) ((I8.below hB hF).trans (hs.sub (fun b h=>.inl h))) (Nat.le_trans hB.size hz)) a1 f14 (hs.at_ f14 hb1) x⟩) rfl mA rfl fun J8 v11 hb Jl r=>?_;have zw10:=hb.size
 have JA:=bc hb JA Kl
 have hB:=Jd.aS (Z:=F) hB;have hB:=hB.bn hb yad
 have zB:=hB.size;refine kP r Jl.shape rfl rfl JA cd rfl rfl fun w15 u16 r=>?_;have zw15:=u16.size
 have JA:=u16.at_;have hB:=hB.bm u16 (.inl O)
 have zB:=hB.size;refine wn (q4 ?_);have hs:=Jl.shape.cells;refine ak r rfl rfl JA (k:=20) hs.1 ce ?_;rw [<-hs.2.2];exact av.fin hB Jl u16 yac Kl O O O
end
end Go.Proofs.YtbbipmelhmgmfaaGreat
